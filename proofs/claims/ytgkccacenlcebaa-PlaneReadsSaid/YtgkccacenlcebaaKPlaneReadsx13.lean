-- Written by a program of the session (wip/tools/pack.py): the printed texts, pruned; checked by Lean.
import Derived.Test.YtgkccacenlcebaaKPlaneReadsa
import Derived.Test.YtgkccacenlcebaaKPlaneReadsx0
import Derived.Test.YtgkccacenlcebaaKPlaneReadsx2
import Derived.Test.YtgkccacenlcebaaKPlaneReadsx7
import Derived.Test.YtgkccacenlcebaaKPlaneReadsx8
import Derived.Test.YtgkccacenlcebaaKPlaneReadsx11
import Derived.Test.YtgkccacenlcebaaKPlaneReadsx12
namespace Go.Proofs.Ytgkccacenlcebaa.PPlaneReads
open Go.RowKit Go.Proofs.YtgkccacenlcebaaW.PrintWords Go.Proofs.YtgkccacenlcebaaW.PrintLast Go.Proofs.YtgkccacenlcebaaW.PrintMore
attribute [local go_sem] max2_int min2_int max_two min_two max_three min_three max_four min_four   -- for this text's walks alone
set_option linter.unusedVariables false
set_option linter.unusedSimpArgs false
mutual
def tilefarmlaw4_PlaneReads.j0 : Nat → Int → Int → Int → Int → List Int → Int → Int → Int → Int → List Int → Option (Bool)
  | 0, _, _, _, _, _, _, _, _, _, _ => none
  | k + 1, x1, x2, x359000, x359001, x362000, x362001, x370000, x370001, x370002, x370003 => tilefarmlaw4_PlaneReads.l0 k x1 x2 0 x359000 x359001 x362000 x362001 x370000 x370001 x370002 x370003
def tilefarmlaw4_PlaneReads.l0 : Nat → Int → Int → Int → Int → Int → List Int → Int → Int → Int → Int → List Int → Option (Bool)
  | 0, _, _, _, _, _, _, _, _, _, _, _ => none
  | k + 1, x1, x2, x11, x359000, x359001, x362000, x362001, x370000, x370001, x370002, x370003 => if x11 < 8 then ((tilefarmgen_Tape_Edge.f x362000 x362001 x370002).bind fun bt380 => ((tilefarmgen_Tape_Next.f x362000 bt380.2.2 20).bind fun bt383 => ((tilefarmgen_Tape_Next.f x362000 bt383.2 20).bind fun bt385 => (if x11 > 5 then (tilefarmlaw4_PlaneReads.j2 k x1 x2 x11 x1 x2 x359000 x359001 x362000 bt385.2 x370000 x370001 x370002 x370003 bt380.1 bt380.2.1) else (tilefarmlaw4_PlaneReads.j2 k x1 x2 x11 (wrap64 (bt383.1 - 8)) (wrap64 (bt385.1 - 8)) x359000 x359001 x362000 bt385.2 x370000 x370001 x370002 x370003 bt380.1 bt380.2.1))))) else ((tilefarmlaw4_sane.f k).bind fun t379 => (some t379))
def tilefarmlaw4_PlaneReads.j2 : Nat → Int → Int → Int → Int → Int → Int → Int → List Int → Int → Int → Int → Int → List Int → Int → Int → Option (Bool)
  | 0, _, _, _, _, _, _, _, _, _, _, _, _, _, _, _ => none
  | k + 1, x1, x2, x11, x13, x14, x359000, x359001, x362000, x362001, x370000, x370001, x370002, x370003, x388000, x388001 => if x11 = 7 then (tilefarmlaw4_PlaneReads.j3 k x1 x2 x11 x13 x14 x359000 x359001 x362000 x362001 x370000 x370001 x370002 x370003 x359000 x359001) else (tilefarmlaw4_PlaneReads.j3 k x1 x2 x11 x13 x14 x359000 x359001 x362000 x362001 x370000 x370001 x370002 x370003 x388000 x388001)
def tilefarmlaw4_PlaneReads.j3 : Nat → Int → Int → Int → Int → Int → Int → Int → List Int → Int → Int → Int → Int → List Int → Int → Int → Option (Bool)
  | 0, _, _, _, _, _, _, _, _, _, _, _, _, _, _, _ => none
  | k + 1, x1, x2, x11, x13, x14, x359000, x359001, x362000, x362001, x370000, x370001, x370002, x370003, x388000, x388001 => (plane_At.f k x370000 x370001 x370002 x370003 x388000 x388001 x13 x14).bind fun t388 => ((tilefarmref4_At.f k x370000 x370001 x370002 x370003 x388000 x388001 x13 x14).bind fun t389 => (if t388 = t389 then (tilefarmlaw4_PlaneReads.l0 k x1 x2 (wrap64 (x11 + 1)) x359000 x359001 x362000 x362001 x370000 x370001 x370002 x370003) else (some false)))
end
def tilefarmlaw4_PlaneReads.f (k : Nat) (l0 : List Int) (a1 : Int) (a2 : Int) (a3_0 : Int) (a3_1 : Int) : Option (Bool) := (tilefarmgen_New.f l0).bind fun bt359 => ((tilefarmgen_Tape_Plane.f k bt359.1 bt359.2).bind fun bt362 => ((tilefarmgen_Tape_Next.f bt359.1 bt362.2.2.2.2 8).bind fun bt370 => (if bt370.1 = 7 then ((tilefarmgen_Tape_SpoilPlane.f bt359.1 bt370.2 bt362.1 bt362.2.1 bt362.2.2.1 bt362.2.2.2.1).bind fun bt372 => (tilefarmlaw4_PlaneReads.j0 k a1 a2 a3_0 a3_1 bt359.1 bt372.2.2.2.2 bt372.1 bt372.2.1 bt372.2.2.1 bt372.2.2.2.1)) else (tilefarmlaw4_PlaneReads.j0 k a1 a2 a3_0 a3_1 bt359.1 bt370.2 bt362.1 bt362.2.1 bt362.2.2.1 bt362.2.2.2.1))))
theorem tilefarmlaw4_PlaneReads.mono_l : ∀ k, (∀ y0 y1 y2 y3 y4 y5 y6 y7 y8 y9, LeO (tilefarmlaw4_PlaneReads.j0 k y0 y1 y2 y3 y4 y5 y6 y7 y8 y9) (tilefarmlaw4_PlaneReads.j0 (k + 1) y0 y1 y2 y3 y4 y5 y6 y7 y8 y9)) ∧ (∀ y0 y1 y2 y3 y4 y5 y6 y7 y8 y9 y10, LeO (tilefarmlaw4_PlaneReads.l0 k y0 y1 y2 y3 y4 y5 y6 y7 y8 y9 y10) (tilefarmlaw4_PlaneReads.l0 (k + 1) y0 y1 y2 y3 y4 y5 y6 y7 y8 y9 y10)) ∧ (∀ y0 y1 y2 y3 y4 y5 y6 y7 y8 y9 y10 y11 y12 y13 y14, LeO (tilefarmlaw4_PlaneReads.j2 k y0 y1 y2 y3 y4 y5 y6 y7 y8 y9 y10 y11 y12 y13 y14) (tilefarmlaw4_PlaneReads.j2 (k + 1) y0 y1 y2 y3 y4 y5 y6 y7 y8 y9 y10 y11 y12 y13 y14)) ∧ (∀ y0 y1 y2 y3 y4 y5 y6 y7 y8 y9 y10 y11 y12 y13 y14, LeO (tilefarmlaw4_PlaneReads.j3 k y0 y1 y2 y3 y4 y5 y6 y7 y8 y9 y10 y11 y12 y13 y14) (tilefarmlaw4_PlaneReads.j3 (k + 1) y0 y1 y2 y3 y4 y5 y6 y7 y8 y9 y10 y11 y12 y13 y14))
  | 0 => ⟨fun _ _ _ _ _ _ _ _ _ _ r h => by simp [tilefarmlaw4_PlaneReads.j0] at h, fun _ _ _ _ _ _ _ _ _ _ _ r h => by simp [tilefarmlaw4_PlaneReads.l0] at h, fun _ _ _ _ _ _ _ _ _ _ _ _ _ _ _ r h => by simp [tilefarmlaw4_PlaneReads.j2] at h, fun _ _ _ _ _ _ _ _ _ _ _ _ _ _ _ r h => by simp [tilefarmlaw4_PlaneReads.j3] at h⟩
  | k + 1 => by
    obtain ⟨ih0, ih1, ih2, ih3⟩ := tilefarmlaw4_PlaneReads.mono_l k
    refine ⟨?_, ?_, ?_, ?_⟩
    · intro y0 y1 y2 y3 y4 y5 y6 y7 y8 y9
      unfold tilefarmlaw4_PlaneReads.j0
      repeat' first
      | (with_reducible exact ih0 _ _ _ _ _ _ _ _ _ _)
      | (with_reducible exact ih1 _ _ _ _ _ _ _ _ _ _ _)
      | (with_reducible exact ih2 _ _ _ _ _ _ _ _ _ _ _ _ _ _ _)
      | (with_reducible exact ih3 _ _ _ _ _ _ _ _ _ _ _ _ _ _ _)
      | (with_reducible exact plane_At.mono _ _ _ _ _ _ _ _ _)
      | (with_reducible exact tilefarmgen_Tape_Plane.mono _ _ _)
      | (with_reducible exact tilefarmlaw4_sane.mono _)
      | (with_reducible exact tilefarmref4_At.mono _ _ _ _ _ _ _ _ _)
      | (with_reducible exact LeO.refl _)
      | (with_reducible exact LeO.none _)
      | (with_reducible refine LeO.ite ?_ ?_)
      | (with_reducible refine LeO.bind ?_ (fun _ => ?_))
      | exact ih0 _ _ _ _ _ _ _ _ _ _
      | exact ih1 _ _ _ _ _ _ _ _ _ _ _
      | exact ih2 _ _ _ _ _ _ _ _ _ _ _ _ _ _ _
      | exact ih3 _ _ _ _ _ _ _ _ _ _ _ _ _ _ _
      | exact plane_At.mono _ _ _ _ _ _ _ _ _
      | exact tilefarmgen_Tape_Plane.mono _ _ _
      | exact tilefarmlaw4_sane.mono _
      | exact tilefarmref4_At.mono _ _ _ _ _ _ _ _ _
      | exact LeO.none _
      | refine LeO.ite ?_ ?_
      | refine LeO.bind ?_ (fun _ => ?_)
    · intro y0 y1 y2 y3 y4 y5 y6 y7 y8 y9 y10
      unfold tilefarmlaw4_PlaneReads.l0
      repeat' first
      | (with_reducible exact ih0 _ _ _ _ _ _ _ _ _ _)
      | (with_reducible exact ih1 _ _ _ _ _ _ _ _ _ _ _)
      | (with_reducible exact ih2 _ _ _ _ _ _ _ _ _ _ _ _ _ _ _)
      | (with_reducible exact ih3 _ _ _ _ _ _ _ _ _ _ _ _ _ _ _)
      | (with_reducible exact plane_At.mono _ _ _ _ _ _ _ _ _)
      | (with_reducible exact tilefarmgen_Tape_Plane.mono _ _ _)
      | (with_reducible exact tilefarmlaw4_sane.mono _)
      | (with_reducible exact tilefarmref4_At.mono _ _ _ _ _ _ _ _ _)
      | (with_reducible exact LeO.refl _)
      | (with_reducible exact LeO.none _)
      | (with_reducible refine LeO.ite ?_ ?_)
      | (with_reducible refine LeO.bind ?_ (fun _ => ?_))
      | exact ih0 _ _ _ _ _ _ _ _ _ _
      | exact ih1 _ _ _ _ _ _ _ _ _ _ _
      | exact ih2 _ _ _ _ _ _ _ _ _ _ _ _ _ _ _
      | exact ih3 _ _ _ _ _ _ _ _ _ _ _ _ _ _ _
      | exact plane_At.mono _ _ _ _ _ _ _ _ _
      | exact tilefarmgen_Tape_Plane.mono _ _ _
      | exact tilefarmlaw4_sane.mono _
      | exact tilefarmref4_At.mono _ _ _ _ _ _ _ _ _
      | exact LeO.none _
      | refine LeO.ite ?_ ?_
      | refine LeO.bind ?_ (fun _ => ?_)
    · intro y0 y1 y2 y3 y4 y5 y6 y7 y8 y9 y10 y11 y12 y13 y14
      unfold tilefarmlaw4_PlaneReads.j2
      repeat' first
      | (with_reducible exact ih0 _ _ _ _ _ _ _ _ _ _)
      | (with_reducible exact ih1 _ _ _ _ _ _ _ _ _ _ _)
      | (with_reducible exact ih2 _ _ _ _ _ _ _ _ _ _ _ _ _ _ _)
      | (with_reducible exact ih3 _ _ _ _ _ _ _ _ _ _ _ _ _ _ _)
      | (with_reducible exact plane_At.mono _ _ _ _ _ _ _ _ _)
      | (with_reducible exact tilefarmgen_Tape_Plane.mono _ _ _)
      | (with_reducible exact tilefarmlaw4_sane.mono _)
      | (with_reducible exact tilefarmref4_At.mono _ _ _ _ _ _ _ _ _)
      | (with_reducible exact LeO.refl _)
      | (with_reducible exact LeO.none _)
      | (with_reducible refine LeO.ite ?_ ?_)
      | (with_reducible refine LeO.bind ?_ (fun _ => ?_))
      | exact ih0 _ _ _ _ _ _ _ _ _ _
      | exact ih1 _ _ _ _ _ _ _ _ _ _ _
      | exact ih2 _ _ _ _ _ _ _ _ _ _ _ _ _ _ _
      | exact ih3 _ _ _ _ _ _ _ _ _ _ _ _ _ _ _
      | exact plane_At.mono _ _ _ _ _ _ _ _ _
      | exact tilefarmgen_Tape_Plane.mono _ _ _
      | exact tilefarmlaw4_sane.mono _
      | exact tilefarmref4_At.mono _ _ _ _ _ _ _ _ _
      | exact LeO.none _
      | refine LeO.ite ?_ ?_
      | refine LeO.bind ?_ (fun _ => ?_)
    · intro y0 y1 y2 y3 y4 y5 y6 y7 y8 y9 y10 y11 y12 y13 y14
      unfold tilefarmlaw4_PlaneReads.j3
      repeat' first
      | (with_reducible exact ih0 _ _ _ _ _ _ _ _ _ _)
      | (with_reducible exact ih1 _ _ _ _ _ _ _ _ _ _ _)
      | (with_reducible exact ih2 _ _ _ _ _ _ _ _ _ _ _ _ _ _ _)
      | (with_reducible exact ih3 _ _ _ _ _ _ _ _ _ _ _ _ _ _ _)
      | (with_reducible exact plane_At.mono _ _ _ _ _ _ _ _ _)
      | (with_reducible exact tilefarmgen_Tape_Plane.mono _ _ _)
      | (with_reducible exact tilefarmlaw4_sane.mono _)
      | (with_reducible exact tilefarmref4_At.mono _ _ _ _ _ _ _ _ _)
      | (with_reducible exact LeO.refl _)
      | (with_reducible exact LeO.none _)
      | (with_reducible refine LeO.ite ?_ ?_)
      | (with_reducible refine LeO.bind ?_ (fun _ => ?_))
      | exact ih0 _ _ _ _ _ _ _ _ _ _
      | exact ih1 _ _ _ _ _ _ _ _ _ _ _
      | exact ih2 _ _ _ _ _ _ _ _ _ _ _ _ _ _ _
      | exact ih3 _ _ _ _ _ _ _ _ _ _ _ _ _ _ _
      | exact plane_At.mono _ _ _ _ _ _ _ _ _
      | exact tilefarmgen_Tape_Plane.mono _ _ _
      | exact tilefarmlaw4_sane.mono _
      | exact tilefarmref4_At.mono _ _ _ _ _ _ _ _ _
      | exact LeO.none _
      | refine LeO.ite ?_ ?_
      | refine LeO.bind ?_ (fun _ => ?_)
theorem tilefarmlaw4_PlaneReads.mono : ∀ a0 a1 a2 a3 a4 k, LeO (tilefarmlaw4_PlaneReads.f k a0 a1 a2 a3 a4) (tilefarmlaw4_PlaneReads.f (k + 1) a0 a1 a2 a3 a4) := by
  intro a0 a1 a2 a3 a4 k
  obtain ⟨ih0, ih1, ih2, ih3⟩ := tilefarmlaw4_PlaneReads.mono_l k
  unfold tilefarmlaw4_PlaneReads.f
  repeat' first
      | (with_reducible exact ih0 _ _ _ _ _ _ _ _ _ _)
      | (with_reducible exact ih1 _ _ _ _ _ _ _ _ _ _ _)
      | (with_reducible exact ih2 _ _ _ _ _ _ _ _ _ _ _ _ _ _ _)
      | (with_reducible exact ih3 _ _ _ _ _ _ _ _ _ _ _ _ _ _ _)
      | (with_reducible exact plane_At.mono _ _ _ _ _ _ _ _ _)
      | (with_reducible exact tilefarmgen_Tape_Plane.mono _ _ _)
      | (with_reducible exact tilefarmlaw4_sane.mono _)
      | (with_reducible exact tilefarmref4_At.mono _ _ _ _ _ _ _ _ _)
      | (with_reducible exact LeO.refl _)
      | (with_reducible exact LeO.none _)
      | (with_reducible refine LeO.ite ?_ ?_)
      | (with_reducible refine LeO.bind ?_ (fun _ => ?_))
      | exact ih0 _ _ _ _ _ _ _ _ _ _
      | exact ih1 _ _ _ _ _ _ _ _ _ _ _
      | exact ih2 _ _ _ _ _ _ _ _ _ _ _ _ _ _ _
      | exact ih3 _ _ _ _ _ _ _ _ _ _ _ _ _ _ _
      | exact plane_At.mono _ _ _ _ _ _ _ _ _
      | exact tilefarmgen_Tape_Plane.mono _ _ _
      | exact tilefarmlaw4_sane.mono _
      | exact tilefarmref4_At.mono _ _ _ _ _ _ _ _ _
      | exact LeO.none _
      | refine LeO.ite ?_ ?_
      | refine LeO.bind ?_ (fun _ => ?_)
def tilefarmlaw4_PlaneReads.T13 : Bool × List (List Nat × List Nat) := (true, [([], []), ([], []), ([], []), ([], []), ([0, 1, 2, 3], [0, 1, 2, 3]), ([], []), ([], []), ([], []), ([], []), ([5, 6, 7, 8, 4], [5, 6, 7, 8]), ([4, 9], [4, 9])])
def tilefarmlaw4_PlaneReads.B13 : List Nat := [0, 0, 0, 0, 15, 0, 0, 0, 0, 511, 1023]
theorem tilefarmlaw4_PlaneReads.tab13 : rtab .any (opsOf Try.f5 13) = tilefarmlaw4_PlaneReads.T13 := by kernel_rfl
theorem tilefarmlaw4_PlaneReads.bits13 : waitsOk tilefarmlaw4_PlaneReads.T13.2 tilefarmlaw4_PlaneReads.B13 = true := by kernel_rfl
set_option maxHeartbeats 8000000 in
set_option maxRecDepth 100000 in
theorem tilefarmlaw4_PlaneReads.calls (k : Nat) (A0 : Option Addr) (c0 : Nat) (l0 : List Int) (a1 : Int) (a2 : Int) (a3_0 : Int) (a3_1 : Int) (r : Bool) (w : World) (hr0 : Kd.C (Kd.int .i64) w A0 l0.length l0) (hc0 : l0.length ≤ c0) (h : tilefarmlaw4_PlaneReads.f k l0 a1 a2 a3_0 a3_1 = some r) (hT : r = true := by first | rfl | assumption | exact HT.out) :
    Calls Try.prog 5 #[.slice A0 l0.length c0, .int .i64 a1, .int .i64 a2, .agg #[.int .i64 a3_0, .int .i64 a3_1]] w fun e w' => e = .returned (.bool r) ∧ Below w.heap.size w w' := by
  have HT := Aside0.mk hT
  clear hT
  have hu45 := Try.underlying45
  have hu26 := Try.underlying26
  have HR0 := Aside0.mk hr0
  have HC0 := Aside0.mk hc0
  clear hr0 hc0
  have HB := Aside0.mk (Below.refl w.heap.size w)
  have H : ((tilefarmgen_New.f l0).bind fun bt359 => ((tilefarmgen_Tape_Plane.f k bt359.1 bt359.2).bind fun bt362 => ((tilefarmgen_Tape_Next.f bt359.1 bt362.2.2.2.2 8).bind fun bt370 => (if bt370.1 = 7 then ((tilefarmgen_Tape_SpoilPlane.f bt359.1 bt370.2 bt362.1 bt362.2.1 bt362.2.2.1 bt362.2.2.2.1).bind fun bt372 => (tilefarmlaw4_PlaneReads.j0 k a1 a2 a3_0 a3_1 bt359.1 bt372.2.2.2.2 bt372.1 bt372.2.1 bt372.2.2.1 bt372.2.2.2.1)) else (tilefarmlaw4_PlaneReads.j0 k a1 a2 a3_0 a3_1 bt359.1 bt370.2 bt362.1 bt362.2.1 bt362.2.2.1 bt362.2.2.2.1))))) = some r := h
  clear h
  replace H := Option.bind_eq_some_iff.mp H
  obtain ⟨⟨t359, t360⟩, A50, H⟩ := H
  replace H : ((tilefarmgen_Tape_Plane.f k t359 t360).bind fun bt362 => ((tilefarmgen_Tape_Next.f t359 bt362.2.2.2.2 8).bind fun bt370 => (if bt370.1 = 7 then ((tilefarmgen_Tape_SpoilPlane.f t359 bt370.2 bt362.1 bt362.2.1 bt362.2.2.1 bt362.2.2.2.1).bind fun bt372 => (tilefarmlaw4_PlaneReads.j0 k a1 a2 a3_0 a3_1 t359 bt372.2.2.2.2 bt372.1 bt372.2.1 bt372.2.2.1 bt372.2.2.2.1)) else (tilefarmlaw4_PlaneReads.j0 k a1 a2 a3_0 a3_1 t359 bt370.2 bt362.1 bt362.2.1 bt362.2.2.1 bt362.2.2.2.1)))) = some r := H
  have A5 := Aside0.mk A50
  clear A50
  replace H := Option.bind_eq_some_iff.mp H
  obtain ⟨⟨t362, t363, t364, t365, t368⟩, A60, H⟩ := H
  replace H : ((tilefarmgen_Tape_Next.f t359 t368 8).bind fun bt370 => (if bt370.1 = 7 then ((tilefarmgen_Tape_SpoilPlane.f t359 bt370.2 t362 t363 t364 t365).bind fun bt372 => (tilefarmlaw4_PlaneReads.j0 k a1 a2 a3_0 a3_1 t359 bt372.2.2.2.2 bt372.1 bt372.2.1 bt372.2.2.1 bt372.2.2.2.1)) else (tilefarmlaw4_PlaneReads.j0 k a1 a2 a3_0 a3_1 t359 bt370.2 t362 t363 t364 t365))) = some r := H
  have A6 := Aside0.mk A60
  clear A60
  replace H := Option.bind_eq_some_iff.mp H
  obtain ⟨⟨t370, t371⟩, A70, H⟩ := H
  replace H : (if t370 = 7 then ((tilefarmgen_Tape_SpoilPlane.f t359 t371 t362 t363 t364 t365).bind fun bt372 => (tilefarmlaw4_PlaneReads.j0 k a1 a2 a3_0 a3_1 t359 bt372.2.2.2.2 bt372.1 bt372.2.1 bt372.2.2.1 bt372.2.2.2.1)) else (tilefarmlaw4_PlaneReads.j0 k a1 a2 a3_0 a3_1 t359 t371 t362 t363 t364 t365)) = some r := H
  have A7 := Aside0.mk A70
  clear A70
  have HC8 := Aside0.mk H
  clear H
  go_enter Try.func5, Try.ntmps5
  go_upto_if 21 with (first | ((with_reducible refine gate_dst (N := 7) rfl ?_); refine box_event ?hg (N := 7) ?hd (cs := #[.int .i64 a3_0, .int .i64 a3_1]) (t := 45) ?hr ?_; (case hd => rfl); (case hg => rfl); (case hr => first | (go_simp; done) | (go_simp; rfl)); intro gb358 hg w9 hbox hb; have n0_ := Aside0.mk (below_step q120_ hb); have n1_ := Aside0.mk (hbox); have n2_ := Aside0.mk ((q95_ : w.heap.size ≤ gb358)); have n3_ := Aside0.mk ((q95_ : w.heap.size ≤ gb358)); clear HB; have HB := n0_; have BK358 := n1_; have GW358 := n2_; have GE358 := n3_; clear n0_ n1_ n2_ n3_; clear hb hbox hg) | ((with_reducible refine gate_callee (f := 8) rfl ?_); refine goesL_ (some 16) rfl rfl Try.func8 (by kernel_rfl) rfl #[.slice A0 l0.length c0] rfl q117_ ?_; (with_reducible refine (tilefarmgen_New.calls _ _ l0 t359 t360 w _ ?side1 ?side2 ?side3 A5.out).mono ?_); (case side1 => repeat (first | (with_reducible first | exact HB.out | apply below_alloc | apply pw_below_drewN | apply below_drew1 | refine below_set ?_ GE358.out) | exact HB.out)); (case side2 => exact HR0.out); (case side3 => exact HC0.out); rintro e w10 ⟨g361, rfl, hi, hb, hb2⟩; refine ⟨_, rfl, ?_⟩; have n0_ := Aside0.mk (blk_below (g := gb358) (o := .cells #[.int .i64 a3_0, .int .i64 a3_1] 45 (0, 0)) q156_ hb2); have n1_ := Aside0.mk (hb); have n2_ := Aside0.mk (hi); have n3_ := Aside0.mk (IsS54.ne_blk hi (blk_below (g := gb358) (o := .cells #[.int .i64 a3_0, .int .i64 a3_1] 45 (0, 0)) q156_ hb2) (by decide)); have n4_ := Aside0.mk (Ne.symm (IsS54.ne_blk hi (blk_below (g := gb358) (o := .cells #[.int .i64 a3_0, .int .i64 a3_1] 45 (0, 0)) q156_ hb2) (by decide))); clear BK358; clear HB; have BK358 := n0_; have HB := n1_; have HI361 := n2_; have NB361_358 := n3_; have NB358_361 := n4_; clear n0_ n1_ n2_ n3_ n4_; (try clear hb); (try clear hb2); (try clear hk); (try clear hi)) | ((with_reducible refine gate_callee (f := 19) rfl ?_); refine goesL_ (some 18) rfl rfl Try.func19 (by kernel_rfl) rfl #[.pointer (some ⟨g361, 0, none⟩)] rfl q117_ ?_; (with_reducible refine (tilefarmgen_Tape_Plane.calls k g361 t359 t360 t362 t363 t364 t365 t368 w _ ?side1 ?side2 A6.out).mono ?_); (case side1 => repeat (first | (with_reducible first | exact HI361.out | apply IsS54.alloc | apply IsS54.drewN | apply IsS54.drew | apply IsS54.set_1 | refine IsS54.far ?_ NB361_358.out _) | exact HI361.out)); (case side2 => repeat (first | (with_reducible first | exact HB.out | apply below_alloc | apply pw_below_drewN | apply below_drew1 | refine below_set ?_ (IsS54.ge HI361.out) | refine below_set ?_ GE358.out) | exact HB.out)); rintro e w11 ⟨v366, rfl, ho0, hi, hb, hk⟩; refine ⟨_, rfl, ?_⟩; have n0_ := Aside0.mk (KeepBut.blk hk (g' := gb358) (o := .cells #[.int .i64 a3_0, .int .i64 a3_1] 45 (0, 0)) q156_ NB358_361.out (by simp)); have n1_ := Aside0.mk (Kd.R_lower ho0 (below_size q63_)); have n2_ := Aside0.mk (hb); have n3_ := Aside0.mk (hi); clear BK358; clear HB; clear HI361; have BK358 := n0_; have HO367 := n1_; have HB := n2_; have HI361 := n3_; clear n0_ n1_ n2_ n3_; (try clear hb); (try clear hb2); (try clear hk); (try clear hi); (try clear ho0)) | ((with_reducible refine gate_dst (N := 10) rfl ?_); refine box_event ?hg (N := 10) ?hd (cs := #[.int .i64 0, .int .i64 0, .int .i64 0, .slice none 0 0]) (t := 26) ?hr ?_; (case hd => rfl); (case hg => rfl); (case hr => first | (go_simp; done) | (go_simp; rfl)); intro gb369 hg w12 hbox hb; have n0_ := Aside0.mk (Kd.R_below q173_ hb); have n1_ := Aside0.mk (blk_below (g := gb358) (o := .cells #[.int .i64 a3_0, .int .i64 a3_1] 45 (0, 0)) q156_ hb); have n2_ := Aside0.mk (IsS54.below (by repeat (first | (with_reducible first | exact HI361.out | apply IsS54.alloc | apply IsS54.drewN | apply IsS54.drew | apply IsS54.set_1 | refine IsS54.far ?_ NB361_358.out _) | exact HI361.out)) hb); have n3_ := Aside0.mk (below_step q63_ hb); have n4_ := Aside0.mk (hbox); have n5_ := Aside0.mk ((by rw [hg]; exact (below_size q63_) : w.heap.size ≤ gb369)); have n6_ := Aside0.mk ((by rw [hg]; exact (below_size q63_) : w.heap.size ≤ gb369)); have n7_ := Aside0.mk ((by rw [hg]; exact Nat.ne_of_lt (blk_lt (g := gb358) (o := .cells #[.int .i64 a3_0, .int .i64 a3_1] 45 (0, 0)) q156_) : gb358 ≠ gb369)); have n8_ := Aside0.mk ((by rw [hg]; exact Nat.ne_of_gt (blk_lt (g := gb358) (o := .cells #[.int .i64 a3_0, .int .i64 a3_1] 45 (0, 0)) q156_) : gb369 ≠ gb358)); have n9_ := Aside0.mk ((by rw [hg]; exact Nat.ne_of_lt (IsS54.lt (show IsS54 w _ g361 t359 t368 from by repeat (first | (with_reducible first | exact HI361.out | apply IsS54.alloc | apply IsS54.drewN | apply IsS54.drew | apply IsS54.set_1 | refine IsS54.far ?_ NB361_358.out _) | exact HI361.out))) : g361 ≠ gb369)); have n10_ := Aside0.mk ((by rw [hg]; exact Nat.ne_of_gt (IsS54.lt (show IsS54 w _ g361 t359 t368 from by repeat (first | (with_reducible first | exact HI361.out | apply IsS54.alloc | apply IsS54.drewN | apply IsS54.drew | apply IsS54.set_1 | refine IsS54.far ?_ NB361_358.out _) | exact HI361.out))) : gb369 ≠ g361)); clear HO367; clear BK358; clear HI361; clear HB; have HO367 := n0_; have BK358 := n1_; have HI361 := n2_; have HB := n3_; have BK369 := n4_; have GW369 := n5_; have GE369 := n6_; have NB358_369 := n7_; have NB369_358 := n8_; have NB361_369 := n9_; have NB369_361 := n10_; clear n0_ n1_ n2_ n3_ n4_ n5_ n6_ n7_ n8_ n9_ n10_; clear hb hbox hg; have hnb13 := NB369_358.out; have hnc13 := NB358_369.out; have hnb14 := NB369_361.out; have hnc14 := NB361_369.out; have hcz15_0 : w12.cell? ⟨gb369, 0, none⟩ = some (.int .i64 0) := (blk_cell BK369.out 0).trans rfl; have hcz15_1 : w12.cell? ⟨gb369, 1, none⟩ = some (.int .i64 0) := (blk_cell BK369.out 1).trans rfl; have hcz15_2 : w12.cell? ⟨gb369, 2, none⟩ = some (.int .i64 0) := (blk_cell BK369.out 2).trans rfl; have hcz15_3 : w12.cell? ⟨gb369, 3, none⟩ = some (.slice none 0 0) := (blk_cell BK369.out 3).trans rfl; have hfz15_0 := blk_frozen BK369.out 0; have hfz15_1 := blk_frozen BK369.out 1; have hfz15_2 := blk_frozen BK369.out 2; have hfz15_3 := blk_frozen BK369.out 3; obtain ⟨Ao16, co16, eo16⟩ := Kd.R_slice HO367.out; subst eo16) | ((with_reducible refine gate_callee (f := 10) rfl ?_); refine goesL_ (some 20) rfl rfl Try.func10 (by kernel_rfl) rfl #[.pointer (some ⟨g361, 0, none⟩), .int .i64 8] rfl q117_ ?_; (with_reducible refine (tilefarmgen_Tape_Next.calls g361 t359 t368 8 t370 t371 w _ ?side1 ?side2 A7.out).mono ?_); (case side1 => repeat (first | (with_reducible first | exact HI361.out | apply IsS54.alloc | apply IsS54.drewN | apply IsS54.drew | apply IsS54.set_1 | refine IsS54.far ?_ NB361_358.out _ | refine IsS54.far ?_ NB361_369.out _) | exact HI361.out)); (case side2 => repeat (first | (with_reducible first | exact HB.out | apply below_alloc | apply pw_below_drewN | apply below_drew1 | refine below_set ?_ (IsS54.ge HI361.out) | refine below_set ?_ GE358.out | refine below_set ?_ GE369.out) | exact HB.out)); rintro e w17 ⟨rfl, hi, hb, hk⟩; refine ⟨_, rfl, ?_⟩; have n0_ := Aside0.mk (KeepBut.blk hk (g' := gb358) (o := .cells #[.int .i64 a3_0, .int .i64 a3_1] 45 (0, 0)) (by (with_reducible repeat (first | refine blk_drewN ?_ _ | refine blk_drew ?_ | refine blk_alloc ?_ _)); refine blk_far ?_ NB358_369.out _; (with_reducible repeat (first | refine blk_drewN ?_ _ | refine blk_drew ?_ | refine blk_alloc ?_ _)); refine blk_far ?_ NB358_369.out _; (with_reducible repeat (first | refine blk_drewN ?_ _ | refine blk_drew ?_ | refine blk_alloc ?_ _)); refine blk_far ?_ NB358_369.out _; (with_reducible repeat (first | refine blk_drewN ?_ _ | refine blk_drew ?_ | refine blk_alloc ?_ _)); refine blk_far ?_ NB358_369.out _; (with_reducible repeat (first | refine blk_drewN ?_ _ | refine blk_drew ?_ | refine blk_alloc ?_ _)); exact BK358.out) NB358_361.out (by simp)); have n1_ := Aside0.mk (Kd.R_mono (Kd.R_keep (IsS54.apart (show IsS54 w _ g361 t359 t368 from by repeat (first | (with_reducible first | exact HI361.out | apply IsS54.alloc | apply IsS54.drewN | apply IsS54.drew | apply IsS54.set_1 | refine IsS54.far ?_ NB361_358.out _ | refine IsS54.far ?_ NB361_369.out _) | exact HI361.out)) (by (with_reducible repeat (first | apply Kd.R_alloc | apply Kd.R_drewN | apply Kd.R_drew)); exact (Kd.R_mono (Kd.R_far (p := ⟨gb369, 3, none⟩) (Kd.R_far (p := ⟨gb369, 2, none⟩) (Kd.R_far (p := ⟨gb369, 1, none⟩) (Kd.R_far (p := ⟨gb369, 0, none⟩) (Kd.R_types HO367.out BK369.out (by decide)) (fun _ hk => hk.2) (.int .i64 t362)) (fun _ hk => hk.2) (.int .i64 t363)) (fun _ hk => hk.2) (.int .i64 t364)) (fun _ hk => hk.2) (.slice Ao16 t365.length co16)) (fun _ h_ => h_.1))) (by decide)) hk (fun _ h => h.2)) (fun _ h => h.1)); have n2_ := Aside0.mk (KeepBut.blk hk (g' := gb369) (o := .cells #[.int .i64 t362, .int .i64 t363, .int .i64 t364, .slice Ao16 t365.length co16] 26 (0, 0)) (by (with_reducible repeat (first | refine blk_drewN ?_ _ | refine blk_drew ?_ | refine blk_alloc ?_ _)); refine blk_put (cs := #[.int .i64 t362, .int .i64 t363, .int .i64 t364, .slice none 0 0]) ?_ 3 _ rfl; (with_reducible repeat (first | refine blk_drewN ?_ _ | refine blk_drew ?_ | refine blk_alloc ?_ _)); refine blk_put (cs := #[.int .i64 t362, .int .i64 t363, .int .i64 0, .slice none 0 0]) ?_ 2 _ rfl; (with_reducible repeat (first | refine blk_drewN ?_ _ | refine blk_drew ?_ | refine blk_alloc ?_ _)); refine blk_put (cs := #[.int .i64 t362, .int .i64 0, .int .i64 0, .slice none 0 0]) ?_ 1 _ rfl; (with_reducible repeat (first | refine blk_drewN ?_ _ | refine blk_drew ?_ | refine blk_alloc ?_ _)); refine blk_put (cs := #[.int .i64 0, .int .i64 0, .int .i64 0, .slice none 0 0]) ?_ 0 _ rfl; (with_reducible repeat (first | refine blk_drewN ?_ _ | refine blk_drew ?_ | refine blk_alloc ?_ _)); exact BK369.out) NB369_361.out (by simp)); have n3_ := Aside0.mk (hb); have n4_ := Aside0.mk (hi); clear BK358; clear HO367; clear BK369; clear HB; clear HI361; have BK358 := n0_; have HO367 := n1_; have BK369 := n2_; have HB := n3_; have HI361 := n4_; clear n0_ n1_ n2_ n3_ n4_; (try clear hb); (try clear hb2); (try clear hk); (try clear hi)))
  (try simp only [Act.put, List.setIfInBounds_toArray, List.set_cons_zero, List.set_cons_succ])
  go_cut [] (fun wc => ∃ (kq : Nat) (x362001_7 : Int) (x370000_7 : Int) (x370001_7 : Int) (x370002_7 : Int) (x370003_7 : List Int) (u370003 : Value), Aside0 (tilefarmlaw4_PlaneReads.j0 kq a1 a2 a3_0 a3_1 t359 x362001_7 x370000_7 x370001_7 x370002_7 x370003_7 = some r) ∧ Aside0 (kq ≤ k) ∧ Aside0 (Kd.R (Kd.int .i64) 3 wc w.heap.size (fun _ => True) u370003 x370003_7) ∧ Aside0 (wc.heap[gb358]? = some (.cells #[.int .i64 a3_0, .int .i64 a3_1] 45 (0, 0))) ∧ Aside0 (wc.heap[gb369]? = some (.cells #[.int .i64 x370000_7, .int .i64 x370001_7, .int .i64 x370002_7, u370003] 26 (0, 0))) ∧ Aside0 (IsS54 w wc g361 t359 x362001_7) ∧ Aside0 (Below w.heap.size w wc))
  case first =>
    have H := HC8.out
    clear HC8
    by_cases c18 : t370 = 7
    · rw [if_pos c18] at H
      have c18b0 : (t370 == 7) = true := beq_iff_eq.mpr c18
      have c18b1 : (t370 != 7) = false := bne_eq_false_iff_eq.mpr c18
      clear c18
      (first | rw [c18b0] | (simp only [i64_w, i32_w]; rw [c18b0]) | skip)
      replace H := Option.bind_eq_some_iff.mp H
      obtain ⟨⟨t372, t373, t374, t375, t378⟩, A190, H⟩ := H
      replace H : (tilefarmlaw4_PlaneReads.j0 k a1 a2 a3_0 a3_1 t359 t378 t372 t373 t374 t375) = some r := H
      have A19 := Aside0.mk A190
      clear A190
      have H' := Aside0.mk H
      clear H
      have hnb20 := NB369_358.out
      have hnc20 := NB358_369.out
      have hnb21 := NB369_361.out
      have hnc21 := NB361_369.out
      have hcz22_0 : w17.cell? ⟨gb369, 0, none⟩ = some (.int .i64 t362) := (blk_cell BK369.out 0).trans rfl
      have hcz22_1 : w17.cell? ⟨gb369, 1, none⟩ = some (.int .i64 t363) := (blk_cell BK369.out 1).trans rfl
      have hcz22_2 : w17.cell? ⟨gb369, 2, none⟩ = some (.int .i64 t364) := (blk_cell BK369.out 2).trans rfl
      have hcz22_3 : w17.cell? ⟨gb369, 3, none⟩ = some (.slice Ao16 t365.length co16) := (blk_cell BK369.out 3).trans rfl
      have hfz22_0 := blk_frozen BK369.out 0
      have hfz22_1 := blk_frozen BK369.out 1
      have hfz22_2 := blk_frozen BK369.out 2
      have hfz22_3 := blk_frozen BK369.out 3
      go_wp2_with (first | ((with_reducible refine gate_callee (f := 20) rfl ?_); refine goesL_ (some 24) rfl rfl Try.func20 (by kernel_rfl) rfl #[.pointer (some ⟨g361, 0, none⟩), .agg #[.int .i64 t362, .int .i64 t363, .int .i64 t364, .slice Ao16 t365.length co16]] rfl q117_ ?_; (with_reducible refine (tilefarmgen_Tape_SpoilPlane.calls g361 t359 t371 t362 t363 t364 _ _ t365 t372 t373 t374 t375 t378 w _ ?side1 ?side2 ?side3 ?side4 ?side5 A19.out).mono ?_); (case side1 => repeat (first | (with_reducible first | exact HI361.out | apply IsS54.alloc | apply IsS54.drewN | apply IsS54.drew | apply IsS54.set_1 | refine IsS54.far ?_ NB361_358.out _ | refine IsS54.far ?_ NB361_369.out _) | exact HI361.out)); (case side2 => repeat (first | (with_reducible first | exact HB.out | apply below_alloc | apply pw_below_drewN | apply below_drew1 | refine below_set ?_ (IsS54.ge HI361.out) | refine below_set ?_ GE358.out | refine below_set ?_ GE369.out) | exact HB.out)); (case side3 => repeat (first | exact (Kd.R_reads' HO367.out).2.2 | (with_reducible refine Kd.C_alloc ?_ _) | (with_reducible refine Kd.C_drewN ?_ _) | (with_reducible refine Kd.C_drew ?_))); (case side4 => exact (Kd.R_reads' HO367.out).2.1); (case side5 => exact far_slice (IsS54.own_ne HI361.out HO367.out (by decide))); rintro e w23 ⟨v376, rfl, ho0, hi, hb, hk⟩; refine ⟨_, rfl, ?_⟩; have n0_ := Aside0.mk (KeepBut.blk hk (g' := gb358) (o := .cells #[.int .i64 a3_0, .int .i64 a3_1] 45 (0, 0)) q156_ NB358_361.out (by simp)); have n1_ := Aside0.mk (Kd.R_mono (Kd.R_told (Kd.R_oldK (IsS54.apart (show IsS54 w _ g361 t359 t371 from by repeat (first | (with_reducible first | exact HI361.out | apply IsS54.alloc | apply IsS54.drewN | apply IsS54.drew | apply IsS54.set_1 | refine IsS54.far ?_ NB361_358.out _ | refine IsS54.far ?_ NB361_369.out _) | exact HI361.out)) q173_ (by decide)) hk) (Kd.R_base ho0)) (fun _ h_ => h_.1)); have n2_ := Aside0.mk (KeepBut.blk hk (g' := gb369) (o := .cells #[.int .i64 t362, .int .i64 t363, .int .i64 t364, .slice Ao16 t365.length co16] 26 (0, 0)) q157_ NB369_361.out (by simp)); have n3_ := Aside0.mk (Kd.R_lower (Kd.R_new' ho0 (Kd.R_lt q173_)) (below_size q44_)); have n4_ := Aside0.mk (hb); have n5_ := Aside0.mk (hi); clear BK358; clear HO367; clear BK369; clear HB; clear HI361; have BK358 := n0_; have HO367 := n1_; have BK369 := n2_; have HO377 := n3_; have HB := n4_; have HI361 := n5_; clear n0_ n1_ n2_ n3_ n4_ n5_; (try clear hb); (try clear hb2); (try clear hk); (try clear hi); (try clear ho0); have hcz24_0 : w23.cell? ⟨gb369, 0, none⟩ = some (.int .i64 t362) := (blk_cell BK369.out 0).trans rfl; have hcz24_1 : w23.cell? ⟨gb369, 1, none⟩ = some (.int .i64 t363) := (blk_cell BK369.out 1).trans rfl; have hcz24_2 : w23.cell? ⟨gb369, 2, none⟩ = some (.int .i64 t364) := (blk_cell BK369.out 2).trans rfl; have hcz24_3 : w23.cell? ⟨gb369, 3, none⟩ = some (.slice Ao16 t365.length co16) := (blk_cell BK369.out 3).trans rfl; have hfz24_0 := blk_frozen BK369.out 0; have hfz24_1 := blk_frozen BK369.out 1; have hfz24_2 := blk_frozen BK369.out 2; have hfz24_3 := blk_frozen BK369.out 3; obtain ⟨Ao25, co25, eo25⟩ := Kd.R_slice HO377.out; subst eo25))
      go_meet
      case rel => exact ⟨_, (t378), (t372), (t373), (t374), (t375), (.slice Ao25 t375.length co25), H', ⟨by first | omega | exact Nat.le_refl _⟩, ⟨by (with_reducible repeat (first | apply Kd.R_alloc | apply Kd.R_drewN | apply Kd.R_drew)); exact Kd.R_mono (Kd.R_far (p := ⟨gb369, 3, none⟩) (Kd.R_far (p := ⟨gb369, 2, none⟩) (Kd.R_far (p := ⟨gb369, 1, none⟩) (Kd.R_far (p := ⟨gb369, 0, none⟩) (Kd.R_types HO377.out BK369.out (by decide)) (fun _ hk => hk.2) (.int .i64 t372)) (fun _ hk => hk.2) (.int .i64 t373)) (fun _ hk => hk.2) (.int .i64 t374)) (fun _ hk => hk.2) (.slice Ao25 t375.length co25)) (fun _ hk => trivial)⟩, ⟨by (with_reducible repeat (first | refine blk_drewN ?_ _ | refine blk_drew ?_ | refine blk_alloc ?_ _)); refine blk_far ?_ NB358_369.out _; (with_reducible repeat (first | refine blk_drewN ?_ _ | refine blk_drew ?_ | refine blk_alloc ?_ _)); refine blk_far ?_ NB358_369.out _; (with_reducible repeat (first | refine blk_drewN ?_ _ | refine blk_drew ?_ | refine blk_alloc ?_ _)); refine blk_far ?_ NB358_369.out _; (with_reducible repeat (first | refine blk_drewN ?_ _ | refine blk_drew ?_ | refine blk_alloc ?_ _)); refine blk_far ?_ NB358_369.out _; (with_reducible repeat (first | refine blk_drewN ?_ _ | refine blk_drew ?_ | refine blk_alloc ?_ _)); exact BK358.out⟩, ⟨by (with_reducible repeat (first | refine blk_drewN ?_ _ | refine blk_drew ?_ | refine blk_alloc ?_ _)); refine blk_put (cs := #[.int .i64 t372, .int .i64 t373, .int .i64 t374, .slice Ao16 t365.length co16]) ?_ 3 _ rfl; (with_reducible repeat (first | refine blk_drewN ?_ _ | refine blk_drew ?_ | refine blk_alloc ?_ _)); refine blk_put (cs := #[.int .i64 t372, .int .i64 t373, .int .i64 t364, .slice Ao16 t365.length co16]) ?_ 2 _ rfl; (with_reducible repeat (first | refine blk_drewN ?_ _ | refine blk_drew ?_ | refine blk_alloc ?_ _)); refine blk_put (cs := #[.int .i64 t372, .int .i64 t363, .int .i64 t364, .slice Ao16 t365.length co16]) ?_ 1 _ rfl; (with_reducible repeat (first | refine blk_drewN ?_ _ | refine blk_drew ?_ | refine blk_alloc ?_ _)); refine blk_put (cs := #[.int .i64 t362, .int .i64 t363, .int .i64 t364, .slice Ao16 t365.length co16]) ?_ 0 _ rfl; (with_reducible repeat (first | refine blk_drewN ?_ _ | refine blk_drew ?_ | refine blk_alloc ?_ _)); exact BK369.out⟩, ⟨q48_⟩, ⟨q44_⟩⟩
    · rw [if_neg c18] at H
      have c18b0 : (t370 == 7) = false := beq_eq_false_iff_ne.mpr c18
      have c18b1 : (t370 != 7) = true := bne_iff_ne.mpr c18
      (first | rw [c18b0] | (simp only [i64_w, i32_w]; rw [c18b0]) | skip)
      have H' := Aside0.mk H
      clear H
      go_wp2
      go_meet
      case rel => exact ⟨_, (t371), (t362), (t363), (t364), (t365), (.slice Ao16 t365.length co16), H', ⟨by first | omega | exact Nat.le_refl _⟩, ⟨q173_⟩, ⟨q156_⟩, ⟨q157_⟩, ⟨q48_⟩, ⟨q44_⟩⟩
  case rest =>
    clear HC8
    try clear c1
    try clear c2
    try clear p2
    try clear c5
    try clear c8
    try clear c10
    try clear c13
    try clear c14
    try clear c18
    try clear c18b0
    try clear c18b1
    try clear c19
    try clear c20
    try clear c21
    try clear hcz15_0
    try clear hcz15_1
    try clear hcz15_2
    try clear hcz15_3
    try clear hcz22_0
    try clear hcz22_1
    try clear hcz22_2
    try clear hcz22_3
    try clear hcz24_0
    try clear hcz24_1
    try clear hcz24_2
    try clear hcz24_3
    try clear hfz15_0
    try clear hfz15_1
    try clear hfz15_2
    try clear hfz15_3
    try clear hfz22_0
    try clear hfz22_1
    try clear hfz22_2
    try clear hfz22_3
    try clear hfz24_0
    try clear hfz24_1
    try clear hfz24_2
    try clear hfz24_3
    obtain ⟨kq, x362001_7, x370000_7, x370001_7, x370002_7, x370003_7, u370003, HA, HJ7, HO_370003, BK358, BK369, HI361, HB⟩ := hcut
    cases kq with
    | zero => exact absurd HA.out (by simp [tilefarmlaw4_PlaneReads.j0])
    | succ kj7 =>
      have H := HA.out
      clear HA
      simp only [tilefarmlaw4_PlaneReads.j0] at H
      have H' := Aside0.mk H
      clear H
      go_wp2
      go_loopg [11] kj7 (fun kq v11 w' => ∃ (x11_2 : Int) (x362001_2 : Int), v11 = .int .i64 x11_2 ∧ Aside0 (tilefarmlaw4_PlaneReads.l0 kq a1 a2 x11_2 a3_0 a3_1 t359 x362001_2 x370000_7 x370001_7 x370002_7 x370003_7 = some r) ∧ Aside0 (kq ≤ kj7) ∧ Aside0 (Kd.R (Kd.int .i64) 3 w' w.heap.size (fun _ => True) u370003 x370003_7) ∧ Aside0 (w'.heap[gb358]? = some (.cells #[.int .i64 a3_0, .int .i64 a3_1] 45 (0, 0))) ∧ Aside0 (w'.heap[gb369]? = some (.cells #[.int .i64 x370000_7, .int .i64 x370001_7, .int .i64 x370002_7, u370003] 26 (0, 0))) ∧ Aside0 (IsS54 w w' g361 t359 x362001_2) ∧ Aside0 (Below w.heap.size w w'))
      case atStart => exact ⟨(0), (x362001_7), q178_, H', ⟨Nat.le_refl _⟩, ⟨q160_⟩, ⟨q156_⟩, ⟨q157_⟩, ⟨q48_⟩, ⟨q44_⟩⟩
      case round =>
        clear H'
        try clear c1
        try clear c2
        try clear p2
        try clear c5
        try clear c8
        try clear c10
        try clear c13
        try clear c14
        try clear c18
        try clear c18b0
        try clear c18b1
        try clear c19
        try clear c20
        try clear c21
        try clear hcz15_0
        try clear hcz15_1
        try clear hcz15_2
        try clear hcz15_3
        try clear hcz22_0
        try clear hcz22_1
        try clear hcz22_2
        try clear hcz22_3
        try clear hcz24_0
        try clear hcz24_1
        try clear hcz24_2
        try clear hcz24_3
        try clear hfz15_0
        try clear hfz15_1
        try clear hfz15_2
        try clear hfz15_3
        try clear hfz22_0
        try clear hfz22_1
        try clear hfz22_2
        try clear hfz22_3
        try clear hfz24_0
        try clear hfz24_1
        try clear hfz24_2
        try clear hfz24_3
        try clear p2
        obtain ⟨x11_2, x362001_2, rfl, HA, HK2, HO_370003, BK358, BK369, HI361, HB⟩ := hrel
        cases gk with
        | zero => exact absurd HA.out (by simp [tilefarmlaw4_PlaneReads.l0])
        | succ k2 =>
          have H := HA.out
          clear HA
          simp only [tilefarmlaw4_PlaneReads.l0] at H
          by_cases c26 : x11_2 < 8
          · rw [if_pos c26] at H
            have c26b0 : decide (x11_2 < 8) = true := decide_eq_true c26
            clear c26
            replace H := Option.bind_eq_some_iff.mp H
            obtain ⟨⟨t380, t381, t382⟩, A270, H⟩ := H
            replace H : ((tilefarmgen_Tape_Next.f t359 t382 20).bind fun bt383 => ((tilefarmgen_Tape_Next.f t359 bt383.2 20).bind fun bt385 => (if x11_2 > 5 then (tilefarmlaw4_PlaneReads.j2 k2 a1 a2 x11_2 a1 a2 a3_0 a3_1 t359 bt385.2 x370000_7 x370001_7 x370002_7 x370003_7 t380 t381) else (tilefarmlaw4_PlaneReads.j2 k2 a1 a2 x11_2 (wrap64 (bt383.1 - 8)) (wrap64 (bt385.1 - 8)) a3_0 a3_1 t359 bt385.2 x370000_7 x370001_7 x370002_7 x370003_7 t380 t381)))) = some r := H
            have A27 := Aside0.mk A270
            clear A270
            replace H := Option.bind_eq_some_iff.mp H
            obtain ⟨⟨t383, t384⟩, A280, H⟩ := H
            replace H : ((tilefarmgen_Tape_Next.f t359 t384 20).bind fun bt385 => (if x11_2 > 5 then (tilefarmlaw4_PlaneReads.j2 k2 a1 a2 x11_2 a1 a2 a3_0 a3_1 t359 bt385.2 x370000_7 x370001_7 x370002_7 x370003_7 t380 t381) else (tilefarmlaw4_PlaneReads.j2 k2 a1 a2 x11_2 (wrap64 (t383 - 8)) (wrap64 (bt385.1 - 8)) a3_0 a3_1 t359 bt385.2 x370000_7 x370001_7 x370002_7 x370003_7 t380 t381))) = some r := H
            have A28 := Aside0.mk A280
            clear A280
            replace H := Option.bind_eq_some_iff.mp H
            obtain ⟨⟨t385, t386⟩, A290, H⟩ := H
            replace H : (if x11_2 > 5 then (tilefarmlaw4_PlaneReads.j2 k2 a1 a2 x11_2 a1 a2 a3_0 a3_1 t359 t386 x370000_7 x370001_7 x370002_7 x370003_7 t380 t381) else (tilefarmlaw4_PlaneReads.j2 k2 a1 a2 x11_2 (wrap64 (t383 - 8)) (wrap64 (t385 - 8)) a3_0 a3_1 t359 t386 x370000_7 x370001_7 x370002_7 x370003_7 t380 t381)) = some r := H
            have A29 := Aside0.mk A290
            clear A290
            have HC30 := Aside0.mk H
            clear H
            have hnb31 := NB369_358.out
            have hnc31 := NB358_369.out
            have hnb32 := NB369_361.out
            have hnc32 := NB361_369.out
            have hcz33_0 : wr.cell? ⟨gb369, 0, none⟩ = some (.int .i64 x370000_7) := (blk_cell BK369.out 0).trans rfl
            have hcz33_1 : wr.cell? ⟨gb369, 1, none⟩ = some (.int .i64 x370001_7) := (blk_cell BK369.out 1).trans rfl
            have hcz33_2 : wr.cell? ⟨gb369, 2, none⟩ = some (.int .i64 x370002_7) := (blk_cell BK369.out 2).trans rfl
            have hcz33_3 : wr.cell? ⟨gb369, 3, none⟩ = some (u370003) := (blk_cell BK369.out 3).trans rfl
            have hfz33_0 := blk_frozen BK369.out 0
            have hfz33_1 := blk_frozen BK369.out 1
            have hfz33_2 := blk_frozen BK369.out 2
            have hfz33_3 := blk_frozen BK369.out 3
            go_upto_if 40 with (first | ((with_reducible refine gate_callee (f := 25) rfl ?_); refine goesL_ (some 32) rfl rfl Try.func25 (by kernel_rfl) rfl #[.pointer (some ⟨g361, 0, none⟩), .int .i64 x370002_7] rfl q117_ ?_; (with_reducible refine (tilefarmgen_Tape_Edge.calls g361 t359 x362001_2 x370002_7 t380 t381 t382 w _ ?side1 ?side2 A27.out).mono ?_); (case side1 => repeat (first | (with_reducible first | exact HI361.out | apply IsS54.alloc | apply IsS54.drewN | apply IsS54.drew | apply IsS54.set_1 | refine IsS54.far ?_ NB361_358.out _ | refine IsS54.far ?_ NB361_369.out _) | exact HI361.out)); (case side2 => repeat (first | (with_reducible first | exact HB.out | apply below_alloc | apply pw_below_drewN | apply below_drew1 | refine below_set ?_ (IsS54.ge HI361.out) | refine below_set ?_ GE358.out | refine below_set ?_ GE369.out) | exact HB.out)); rintro e w34 ⟨rfl, hi, hb, hk⟩; refine ⟨_, rfl, ?_⟩; have n0_ := Aside0.mk (Kd.R_mono (Kd.R_keep (IsS54.apart (show IsS54 w _ g361 t359 x362001_2 from by repeat (first | (with_reducible first | exact HI361.out | apply IsS54.alloc | apply IsS54.drewN | apply IsS54.drew | apply IsS54.set_1 | refine IsS54.far ?_ NB361_358.out _ | refine IsS54.far ?_ NB361_369.out _) | exact HI361.out)) q160_ (by decide)) hk (fun _ h => h.2)) (fun _ h => h.1)); have n1_ := Aside0.mk (KeepBut.blk hk (g' := gb358) (o := .cells #[.int .i64 a3_0, .int .i64 a3_1] 45 (0, 0)) q156_ NB358_361.out (by simp)); have n2_ := Aside0.mk (KeepBut.blk hk (g' := gb369) (o := .cells #[.int .i64 x370000_7, .int .i64 x370001_7, .int .i64 x370002_7, u370003] 26 (0, 0)) q157_ NB369_361.out (by simp)); have n3_ := Aside0.mk (hb); have n4_ := Aside0.mk (hi); clear HO_370003; clear BK358; clear BK369; clear HB; clear HI361; have HO_370003 := n0_; have BK358 := n1_; have BK369 := n2_; have HB := n3_; have HI361 := n4_; clear n0_ n1_ n2_ n3_ n4_; (try clear hb); (try clear hb2); (try clear hk); (try clear hi)) | ((with_reducible refine gate_callee (f := 10) rfl ?_); refine goesL_ (some 34) rfl rfl Try.func10 (by kernel_rfl) rfl #[.pointer (some ⟨g361, 0, none⟩), .int .i64 20] rfl q117_ ?_; (with_reducible refine (tilefarmgen_Tape_Next.calls g361 t359 t382 20 t383 t384 w _ ?side1 ?side2 A28.out).mono ?_); (case side1 => repeat (first | (with_reducible first | exact HI361.out | apply IsS54.alloc | apply IsS54.drewN | apply IsS54.drew | apply IsS54.set_1 | refine IsS54.far ?_ NB361_358.out _ | refine IsS54.far ?_ NB361_369.out _) | exact HI361.out)); (case side2 => repeat (first | (with_reducible first | exact HB.out | apply below_alloc | apply pw_below_drewN | apply below_drew1 | refine below_set ?_ (IsS54.ge HI361.out) | refine below_set ?_ GE358.out | refine below_set ?_ GE369.out) | exact HB.out)); rintro e w35 ⟨rfl, hi, hb, hk⟩; refine ⟨_, rfl, ?_⟩; have n0_ := Aside0.mk (Kd.R_mono (Kd.R_keep (IsS54.apart (show IsS54 w _ g361 t359 t382 from by repeat (first | (with_reducible first | exact HI361.out | apply IsS54.alloc | apply IsS54.drewN | apply IsS54.drew | apply IsS54.set_1 | refine IsS54.far ?_ NB361_358.out _ | refine IsS54.far ?_ NB361_369.out _) | exact HI361.out)) q160_ (by decide)) hk (fun _ h => h.2)) (fun _ h => h.1)); have n1_ := Aside0.mk (KeepBut.blk hk (g' := gb358) (o := .cells #[.int .i64 a3_0, .int .i64 a3_1] 45 (0, 0)) q156_ NB358_361.out (by simp)); have n2_ := Aside0.mk (KeepBut.blk hk (g' := gb369) (o := .cells #[.int .i64 x370000_7, .int .i64 x370001_7, .int .i64 x370002_7, u370003] 26 (0, 0)) q157_ NB369_361.out (by simp)); have n3_ := Aside0.mk (hb); have n4_ := Aside0.mk (hi); clear HO_370003; clear BK358; clear BK369; clear HB; clear HI361; have HO_370003 := n0_; have BK358 := n1_; have BK369 := n2_; have HB := n3_; have HI361 := n4_; clear n0_ n1_ n2_ n3_ n4_; (try clear hb); (try clear hb2); (try clear hk); (try clear hi)) | ((with_reducible refine gate_callee (f := 10) rfl ?_); refine goesL_ (some 37) rfl rfl Try.func10 (by kernel_rfl) rfl #[.pointer (some ⟨g361, 0, none⟩), .int .i64 20] rfl q117_ ?_; (with_reducible refine (tilefarmgen_Tape_Next.calls g361 t359 t384 20 t385 t386 w _ ?side1 ?side2 A29.out).mono ?_); (case side1 => repeat (first | (with_reducible first | exact HI361.out | apply IsS54.alloc | apply IsS54.drewN | apply IsS54.drew | apply IsS54.set_1 | refine IsS54.far ?_ NB361_358.out _ | refine IsS54.far ?_ NB361_369.out _) | exact HI361.out)); (case side2 => repeat (first | (with_reducible first | exact HB.out | apply below_alloc | apply pw_below_drewN | apply below_drew1 | refine below_set ?_ (IsS54.ge HI361.out) | refine below_set ?_ GE358.out | refine below_set ?_ GE369.out) | exact HB.out)); rintro e w36 ⟨rfl, hi, hb, hk⟩; refine ⟨_, rfl, ?_⟩; have n0_ := Aside0.mk (Kd.R_mono (Kd.R_keep (IsS54.apart (show IsS54 w _ g361 t359 t384 from by repeat (first | (with_reducible first | exact HI361.out | apply IsS54.alloc | apply IsS54.drewN | apply IsS54.drew | apply IsS54.set_1 | refine IsS54.far ?_ NB361_358.out _ | refine IsS54.far ?_ NB361_369.out _) | exact HI361.out)) q160_ (by decide)) hk (fun _ h => h.2)) (fun _ h => h.1)); have n1_ := Aside0.mk (KeepBut.blk hk (g' := gb358) (o := .cells #[.int .i64 a3_0, .int .i64 a3_1] 45 (0, 0)) q156_ NB358_361.out (by simp)); have n2_ := Aside0.mk (KeepBut.blk hk (g' := gb369) (o := .cells #[.int .i64 x370000_7, .int .i64 x370001_7, .int .i64 x370002_7, u370003] 26 (0, 0)) q157_ NB369_361.out (by simp)); have n3_ := Aside0.mk (hb); have n4_ := Aside0.mk (hi); clear HO_370003; clear BK358; clear BK369; clear HB; clear HI361; have HO_370003 := n0_; have BK358 := n1_; have BK369 := n2_; have HB := n3_; have HI361 := n4_; clear n0_ n1_ n2_ n3_ n4_; (try clear hb); (try clear hb2); (try clear hk); (try clear hi)) | ((with_reducible refine gate_dst (N := 12) rfl ?_); refine box_event ?hg (N := 12) ?hd (cs := #[.int .i64 0, .int .i64 0]) (t := 45) ?hr ?_; (case hd => rfl); (case hg => rfl); (case hr => first | (go_simp; done) | (go_simp; rfl)); intro gb387 hg w37 hbox hb; have n0_ := Aside0.mk (Kd.R_below q160_ hb); have n1_ := Aside0.mk (blk_below (g := gb358) (o := .cells #[.int .i64 a3_0, .int .i64 a3_1] 45 (0, 0)) q156_ hb); have n2_ := Aside0.mk (blk_below (g := gb369) (o := .cells #[.int .i64 x370000_7, .int .i64 x370001_7, .int .i64 x370002_7, u370003] 26 (0, 0)) q157_ hb); have n3_ := Aside0.mk (IsS54.below q48_ hb); have n4_ := Aside0.mk (below_step q44_ hb); have n5_ := Aside0.mk (hbox); have n6_ := Aside0.mk ((by rw [hg]; exact (below_size q44_) : w.heap.size ≤ gb387)); have n7_ := Aside0.mk ((by rw [hg]; exact (below_size q44_) : w.heap.size ≤ gb387)); have n8_ := Aside0.mk ((by rw [hg]; exact Nat.ne_of_lt (blk_lt (g := gb358) (o := .cells #[.int .i64 a3_0, .int .i64 a3_1] 45 (0, 0)) q156_) : gb358 ≠ gb387)); have n9_ := Aside0.mk ((by rw [hg]; exact Nat.ne_of_gt (blk_lt (g := gb358) (o := .cells #[.int .i64 a3_0, .int .i64 a3_1] 45 (0, 0)) q156_) : gb387 ≠ gb358)); have n10_ := Aside0.mk ((by rw [hg]; exact Nat.ne_of_lt (blk_lt (g := gb369) (o := .cells #[.int .i64 x370000_7, .int .i64 x370001_7, .int .i64 x370002_7, u370003] 26 (0, 0)) q157_) : gb369 ≠ gb387)); have n11_ := Aside0.mk ((by rw [hg]; exact Nat.ne_of_gt (blk_lt (g := gb369) (o := .cells #[.int .i64 x370000_7, .int .i64 x370001_7, .int .i64 x370002_7, u370003] 26 (0, 0)) q157_) : gb387 ≠ gb369)); have n12_ := Aside0.mk ((by rw [hg]; exact Nat.ne_of_lt (IsS54.lt (show IsS54 w _ g361 t359 t386 from by repeat (first | (with_reducible first | exact HI361.out | apply IsS54.alloc | apply IsS54.drewN | apply IsS54.drew | apply IsS54.set_1 | refine IsS54.far ?_ NB361_358.out _ | refine IsS54.far ?_ NB361_369.out _) | exact HI361.out))) : g361 ≠ gb387)); have n13_ := Aside0.mk ((by rw [hg]; exact Nat.ne_of_gt (IsS54.lt (show IsS54 w _ g361 t359 t386 from by repeat (first | (with_reducible first | exact HI361.out | apply IsS54.alloc | apply IsS54.drewN | apply IsS54.drew | apply IsS54.set_1 | refine IsS54.far ?_ NB361_358.out _ | refine IsS54.far ?_ NB361_369.out _) | exact HI361.out))) : gb387 ≠ g361)); clear HO_370003; clear BK358; clear BK369; clear HI361; clear HB; have HO_370003 := n0_; have BK358 := n1_; have BK369 := n2_; have HI361 := n3_; have HB := n4_; have BK387 := n5_; have GW387 := n6_; have GE387 := n7_; have NB358_387 := n8_; have NB387_358 := n9_; have NB369_387 := n10_; have NB387_369 := n11_; have NB361_387 := n12_; have NB387_361 := n13_; clear n0_ n1_ n2_ n3_ n4_ n5_ n6_ n7_ n8_ n9_ n10_ n11_ n12_ n13_; clear hb hbox hg; have hnb38 := NB387_358.out; have hnc38 := NB358_387.out; have hnb39 := NB387_369.out; have hnc39 := NB369_387.out; have hnb40 := NB387_361.out; have hnc40 := NB361_387.out; have hcz41_0 : w37.cell? ⟨gb387, 0, none⟩ = some (.int .i64 0) := (blk_cell BK387.out 0).trans rfl; have hcz41_1 : w37.cell? ⟨gb387, 1, none⟩ = some (.int .i64 0) := (blk_cell BK387.out 1).trans rfl; have hfz41_0 := blk_frozen BK387.out 0; have hfz41_1 := blk_frozen BK387.out 1))
            (try simp only [Act.put, List.setIfInBounds_toArray, List.set_cons_zero, List.set_cons_succ])
            go_cut [13, 14] (fun v13 v14 wc => ∃ (kq : Nat) (x13_29 : Int) (x14_29 : Int), v13 = .int .i64 x13_29 ∧ v14 = .int .i64 x14_29 ∧ Aside0 (tilefarmlaw4_PlaneReads.j2 kq a1 a2 x11_2 x13_29 x14_29 a3_0 a3_1 t359 t386 x370000_7 x370001_7 x370002_7 x370003_7 t380 t381 = some r) ∧ Aside0 (kq ≤ k2) ∧ Aside0 (Kd.R (Kd.int .i64) 3 wc w.heap.size (fun _ => True) u370003 x370003_7) ∧ Aside0 (wc.heap[gb358]? = some (.cells #[.int .i64 a3_0, .int .i64 a3_1] 45 (0, 0))) ∧ Aside0 (wc.heap[gb369]? = some (.cells #[.int .i64 x370000_7, .int .i64 x370001_7, .int .i64 x370002_7, u370003] 26 (0, 0))) ∧ Aside0 (wc.heap[gb387]? = some (.cells #[.int .i64 t380, .int .i64 t381] 45 (0, 0))) ∧ Aside0 (IsS54 w wc g361 t359 t386) ∧ Aside0 (Below w.heap.size w wc))
            case first =>
              have H := HC30.out
              clear HC30
              by_cases c42 : x11_2 > 5
              · rw [if_pos c42] at H
                have c42b0 : decide (5 < x11_2) = true := decide_eq_true c42
                clear c42
                (first | rw [c42b0] | (simp only [i64_w, i32_w]; rw [c42b0]) | skip)
                have H' := Aside0.mk H
                clear H
                go_wp2
                go_meet
                case rel => exact ⟨_, (a1), (a2), q178_, q178_, H', ⟨by have := HJ7.out; have := HK2.out; first | omega | exact Nat.le_refl _⟩, ⟨by (with_reducible repeat (first | apply Kd.R_alloc | apply Kd.R_drewN | apply Kd.R_drew)); exact Kd.R_mono (Kd.R_far (p := ⟨gb387, 1, none⟩) (Kd.R_far (p := ⟨gb387, 0, none⟩) (Kd.R_types HO_370003.out BK387.out (by decide)) (fun _ hk => hk.2) (.int .i64 t380)) (fun _ hk => hk.2) (.int .i64 t381)) (fun _ hk => trivial)⟩, ⟨q0_⟩, ⟨q1_⟩, ⟨by (with_reducible repeat (first | refine blk_drewN ?_ _ | refine blk_drew ?_ | refine blk_alloc ?_ _)); refine blk_put (cs := #[.int .i64 t380, .int .i64 0]) ?_ 1 _ rfl; (with_reducible repeat (first | refine blk_drewN ?_ _ | refine blk_drew ?_ | refine blk_alloc ?_ _)); refine blk_put (cs := #[.int .i64 0, .int .i64 0]) ?_ 0 _ rfl; (with_reducible repeat (first | refine blk_drewN ?_ _ | refine blk_drew ?_ | refine blk_alloc ?_ _)); exact BK387.out⟩, ⟨q22_⟩, ⟨q21_⟩⟩
              · rw [if_neg c42] at H
                have c42b0 : decide (5 < x11_2) = false := decide_eq_false c42
                clear c42
                (first | rw [c42b0] | (simp only [i64_w, i32_w]; rw [c42b0]) | skip)
                have H' := Aside0.mk H
                clear H
                go_wp2
                go_meet
                case rel => exact ⟨_, (wrap64 (t383 - 8)), (wrap64 (t385 - 8)), q178_, q178_, H', ⟨by have := HJ7.out; have := HK2.out; first | omega | exact Nat.le_refl _⟩, ⟨by (with_reducible repeat (first | apply Kd.R_alloc | apply Kd.R_drewN | apply Kd.R_drew)); exact Kd.R_mono (Kd.R_far (p := ⟨gb387, 1, none⟩) (Kd.R_far (p := ⟨gb387, 0, none⟩) (Kd.R_types HO_370003.out BK387.out (by decide)) (fun _ hk => hk.2) (.int .i64 t380)) (fun _ hk => hk.2) (.int .i64 t381)) (fun _ hk => trivial)⟩, ⟨q0_⟩, ⟨q1_⟩, ⟨by (with_reducible repeat (first | refine blk_drewN ?_ _ | refine blk_drew ?_ | refine blk_alloc ?_ _)); refine blk_put (cs := #[.int .i64 t380, .int .i64 0]) ?_ 1 _ rfl; (with_reducible repeat (first | refine blk_drewN ?_ _ | refine blk_drew ?_ | refine blk_alloc ?_ _)); refine blk_put (cs := #[.int .i64 0, .int .i64 0]) ?_ 0 _ rfl; (with_reducible repeat (first | refine blk_drewN ?_ _ | refine blk_drew ?_ | refine blk_alloc ?_ _)); exact BK387.out⟩, ⟨q22_⟩, ⟨q21_⟩⟩
            case rest =>
              clear HC30
              try clear c1
              try clear c2
              try clear p2
              try clear c3
              try clear c4
              try clear c5
              try clear p6
              try clear c8
              try clear c10
              try clear c13
              try clear c14
              try clear c18
              try clear c18b0
              try clear c18b1
              try clear c19
              try clear c20
              try clear c21
              try clear c25
              try clear c26
              try clear c26b0
              try clear c31
              try clear c32
              try clear c38
              try clear c39
              try clear c40
              try clear c42
              try clear c42b0
              try clear hcz15_0
              try clear hcz15_1
              try clear hcz15_2
              try clear hcz15_3
              try clear hcz22_0
              try clear hcz22_1
              try clear hcz22_2
              try clear hcz22_3
              try clear hcz24_0
              try clear hcz24_1
              try clear hcz24_2
              try clear hcz24_3
              try clear hcz33_0
              try clear hcz33_1
              try clear hcz33_2
              try clear hcz33_3
              try clear hcz41_0
              try clear hcz41_1
              try clear hfz15_0
              try clear hfz15_1
              try clear hfz15_2
              try clear hfz15_3
              try clear hfz22_0
              try clear hfz22_1
              try clear hfz22_2
              try clear hfz22_3
              try clear hfz24_0
              try clear hfz24_1
              try clear hfz24_2
              try clear hfz24_3
              try clear hfz33_0
              try clear hfz33_1
              try clear hfz33_2
              try clear hfz33_3
              try clear hfz41_0
              try clear hfz41_1
              try clear p2
              obtain ⟨kq, x13_29, x14_29, rfl, rfl, HA, HJ29, HO_370003, BK358, BK369, BK387, HI361, HB⟩ := hcut
              cases kq with
              | zero => exact absurd HA.out (by simp [tilefarmlaw4_PlaneReads.j2])
              | succ kj29 =>
                have H := HA.out
                clear HA
                simp only [tilefarmlaw4_PlaneReads.j2] at H
                have HC43 := Aside0.mk H
                clear H
                go_upto_if 44 with (fail)
                go_cut [] (fun wc => ∃ (kq : Nat) (x388000_42 : Int) (x388001_42 : Int), Aside0 (tilefarmlaw4_PlaneReads.j3 kq a1 a2 x11_2 x13_29 x14_29 a3_0 a3_1 t359 t386 x370000_7 x370001_7 x370002_7 x370003_7 x388000_42 x388001_42 = some r) ∧ Aside0 (kq ≤ kj29) ∧ Aside0 (Kd.R (Kd.int .i64) 3 wc w.heap.size (fun _ => True) u370003 x370003_7) ∧ Aside0 (wc.heap[gb358]? = some (.cells #[.int .i64 a3_0, .int .i64 a3_1] 45 (0, 0))) ∧ Aside0 (wc.heap[gb369]? = some (.cells #[.int .i64 x370000_7, .int .i64 x370001_7, .int .i64 x370002_7, u370003] 26 (0, 0))) ∧ Aside0 (wc.heap[gb387]? = some (.cells #[.int .i64 x388000_42, .int .i64 x388001_42] 45 (0, 0))) ∧ Aside0 (IsS54 w wc g361 t359 t386) ∧ Aside0 (Below w.heap.size w wc))
                case first =>
                  have H := HC43.out
                  clear HC43
                  by_cases c44 : x11_2 = 7
                  · rw [if_pos c44] at H
                    have c44b0 : (x11_2 == 7) = true := beq_iff_eq.mpr c44
                    have c44b1 : (x11_2 != 7) = false := bne_eq_false_iff_eq.mpr c44
                    clear c44
                    (first | rw [c44b0] | (simp only [i64_w, i32_w]; rw [c44b0]) | skip)
                    have H' := Aside0.mk H
                    clear H
                    have hnb45 := NB358_369.out
                    have hnc45 := NB369_358.out
                    have hnb46 := NB358_387.out
                    have hnc46 := NB387_358.out
                    have hnb47 := NB358_361.out
                    have hnc47 := NB361_358.out
                    have hcz48_0 : wc.cell? ⟨gb358, 0, none⟩ = some (.int .i64 a3_0) := (blk_cell BK358.out 0).trans rfl
                    have hcz48_1 : wc.cell? ⟨gb358, 1, none⟩ = some (.int .i64 a3_1) := (blk_cell BK358.out 1).trans rfl
                    have hfz48_0 := blk_frozen BK358.out 0
                    have hfz48_1 := blk_frozen BK358.out 1
                    have hnb49 := NB387_369.out
                    have hnc49 := NB369_387.out
                    have hnb50 := NB387_361.out
                    have hnc50 := NB361_387.out
                    have hcz51_0 : wc.cell? ⟨gb387, 0, none⟩ = some (.int .i64 t380) := (blk_cell BK387.out 0).trans rfl
                    have hcz51_1 : wc.cell? ⟨gb387, 1, none⟩ = some (.int .i64 t381) := (blk_cell BK387.out 1).trans rfl
                    have hfz51_0 := blk_frozen BK387.out 0
                    have hfz51_1 := blk_frozen BK387.out 1
                    go_wp2
                    go_meet
                    case rel => exact ⟨_, (a3_0), (a3_1), H', ⟨by have := HJ7.out; have := HK2.out; have := HJ29.out; first | omega | exact Nat.le_refl _⟩, ⟨by (with_reducible repeat (first | apply Kd.R_alloc | apply Kd.R_drewN | apply Kd.R_drew)); exact Kd.R_mono (Kd.R_far (p := ⟨gb387, 1, none⟩) (Kd.R_far (p := ⟨gb387, 0, none⟩) (Kd.R_types HO_370003.out BK387.out (by decide)) (fun _ hk => hk.2) (.int .i64 a3_0)) (fun _ hk => hk.2) (.int .i64 a3_1)) (fun _ hk => trivial)⟩, ⟨q0_⟩, ⟨q1_⟩, ⟨by (with_reducible repeat (first | refine blk_drewN ?_ _ | refine blk_drew ?_ | refine blk_alloc ?_ _)); refine blk_put (cs := #[.int .i64 a3_0, .int .i64 t381]) ?_ 1 _ rfl; (with_reducible repeat (first | refine blk_drewN ?_ _ | refine blk_drew ?_ | refine blk_alloc ?_ _)); refine blk_put (cs := #[.int .i64 t380, .int .i64 t381]) ?_ 0 _ rfl; (with_reducible repeat (first | refine blk_drewN ?_ _ | refine blk_drew ?_ | refine blk_alloc ?_ _)); exact BK387.out⟩, ⟨q22_⟩, ⟨q21_⟩⟩
                  · rw [if_neg c44] at H
                    have c44b0 : (x11_2 == 7) = false := beq_eq_false_iff_ne.mpr c44
                    have c44b1 : (x11_2 != 7) = true := bne_iff_ne.mpr c44
                    (first | rw [c44b0] | (simp only [i64_w, i32_w]; rw [c44b0]) | skip)
                    have H' := Aside0.mk H
                    clear H
                    go_wp2
                    go_meet
                    case rel => exact ⟨_, (t380), (t381), H', ⟨by have := HJ7.out; have := HK2.out; have := HJ29.out; first | omega | exact Nat.le_refl _⟩, ⟨q160_⟩, ⟨q156_⟩, ⟨q157_⟩, ⟨q158_⟩, ⟨q22_⟩, ⟨q21_⟩⟩
                case rest =>
                  clear HC43
                  try clear c1
                  try clear c2
                  try clear p2
                  try clear c3
                  try clear c4
                  try clear c5
                  try clear p6
                  try clear c8
                  try clear c10
                  try clear c13
                  try clear c14
                  try clear c18
                  try clear c18b0
                  try clear c18b1
                  try clear c19
                  try clear c20
                  try clear c21
                  try clear c25
                  try clear c26
                  try clear c26b0
                  try clear c31
                  try clear c32
                  try clear c38
                  try clear c39
                  try clear c40
                  try clear c42
                  try clear c42b0
                  try clear c44
                  try clear c44b0
                  try clear c44b1
                  try clear c45
                  try clear c46
                  try clear c47
                  try clear c49
                  try clear c50
                  try clear hcz15_0
                  try clear hcz15_1
                  try clear hcz15_2
                  try clear hcz15_3
                  try clear hcz22_0
                  try clear hcz22_1
                  try clear hcz22_2
                  try clear hcz22_3
                  try clear hcz24_0
                  try clear hcz24_1
                  try clear hcz24_2
                  try clear hcz24_3
                  try clear hcz33_0
                  try clear hcz33_1
                  try clear hcz33_2
                  try clear hcz33_3
                  try clear hcz41_0
                  try clear hcz41_1
                  try clear hcz48_0
                  try clear hcz48_1
                  try clear hcz51_0
                  try clear hcz51_1
                  try clear hfz15_0
                  try clear hfz15_1
                  try clear hfz15_2
                  try clear hfz15_3
                  try clear hfz22_0
                  try clear hfz22_1
                  try clear hfz22_2
                  try clear hfz22_3
                  try clear hfz24_0
                  try clear hfz24_1
                  try clear hfz24_2
                  try clear hfz24_3
                  try clear hfz33_0
                  try clear hfz33_1
                  try clear hfz33_2
                  try clear hfz33_3
                  try clear hfz41_0
                  try clear hfz41_1
                  try clear hfz48_0
                  try clear hfz48_1
                  try clear hfz51_0
                  try clear hfz51_1
                  try clear p2
                  try clear p6
                  obtain ⟨kq, x388000_42, x388001_42, HA, HJ42, HO_370003, BK358, BK369, BK387, HI361, HB⟩ := hcut
                  cases kq with
                  | zero => exact absurd HA.out (by simp [tilefarmlaw4_PlaneReads.j3])
                  | succ kj42 =>
                    have H := HA.out
                    clear HA
                    simp only [tilefarmlaw4_PlaneReads.j3] at H
                    replace H := Option.bind_eq_some_iff.mp H
                    obtain ⟨t388, A520, H⟩ := H
                    replace H : ((tilefarmref4_At.f kj42 x370000_7 x370001_7 x370002_7 x370003_7 x388000_42 x388001_42 x13_29 x14_29).bind fun t389 => (if t388 = t389 then (tilefarmlaw4_PlaneReads.l0 kj42 a1 a2 (wrap64 (x11_2 + 1)) a3_0 a3_1 t359 t386 x370000_7 x370001_7 x370002_7 x370003_7) else (some false))) = some r := H
                    have A52 := Aside0.mk A520
                    clear A520
                    replace H := Option.bind_eq_some_iff.mp H
                    obtain ⟨t389, A530, H⟩ := H
                    replace H : (if t388 = t389 then (tilefarmlaw4_PlaneReads.l0 kj42 a1 a2 (wrap64 (x11_2 + 1)) a3_0 a3_1 t359 t386 x370000_7 x370001_7 x370002_7 x370003_7) else (some false)) = some r := H
                    have A53 := Aside0.mk A530
                    clear A530
                    by_cases c54 : t388 = t389
                    · rw [if_pos c54] at H
                      have c54b0 : (t388 == t389) = true := beq_iff_eq.mpr c54
                      have c54b1 : (t388 != t389) = false := bne_eq_false_iff_eq.mpr c54
                      clear c54
                      have H' := Aside0.mk H
                      clear H
                      try go_wp2
                      have n0_ := Aside0.mk (Kd.R_drew HO_370003.out)
                      have n1_ := Aside0.mk (blk_drew BK358.out)
                      have n2_ := Aside0.mk (blk_drew BK369.out)
                      have n3_ := Aside0.mk (blk_drew BK387.out)
                      have n4_ := Aside0.mk (IsS54.drew HI361.out)
                      have n5_ := Aside0.mk (below_drew1 HB.out)
                      clear HO_370003
                      clear BK358
                      clear BK369
                      clear BK387
                      clear HI361
                      clear HB
                      have HO_370003 := n0_
                      have BK358 := n1_
                      have BK369 := n2_
                      have BK387 := n3_
                      have HI361 := n4_
                      have HB := n5_
                      clear n0_ n1_ n2_ n3_ n4_ n5_
                      obtain ⟨Ao56, co56, eo56⟩ := Kd.R_slice HO_370003.out
                      (first | subst eo56 | (injection eo56 with f1_ f2_ f3_; have f4_ := f1_.symm; have f5_ := f3_.symm; clear f1_ f2_ f3_; subst f4_; subst f5_))
                      refine start_ (n := 11) (S := fun w' => w'.cell? ⟨gb369, 0, none⟩ = some (.int .i64 x370000_7) ∧ w'.cell? ⟨gb369, 1, none⟩ = some (.int .i64 x370001_7) ∧ w'.cell? ⟨gb369, 2, none⟩ = some (.int .i64 x370002_7) ∧ w'.cell? ⟨gb369, 3, none⟩ = some (.slice Ao56 x370003_7.length co56) ∧ w'.cell? ⟨gb387, 0, none⟩ = some (.int .i64 x388000_42) ∧ w'.cell? ⟨gb387, 1, none⟩ = some (.int .i64 x388001_42)) (ds := []) #[false, false, false, false, false, false, false, false, false, false, false] (by kernel_rfl) rfl rfl ⟨(blk_cell BK369.out 0).trans rfl, (blk_cell BK369.out 1).trans rfl, (blk_cell BK369.out 2).trans rfl, (blk_cell BK369.out 3).trans rfl, (blk_cell BK387.out 0).trans rfl, (blk_cell BK387.out 1).trans rfl⟩ (fun hHeld => ?_); refine with_tabW tilefarmlaw4_PlaneReads.tab13 tilefarmlaw4_PlaneReads.bits13 (fun HT_ HW_ => ?_)
                      generalize wc.drew = w55 at HO_370003 BK358 BK369 BK387 HI361 HB hHeld ⊢
                      refine pure_ (i := 2) (N := some 48) (v := ?_) (a' := ?_) #[false, false, true, false, false, false, false, false, false, false, false] rfl rfl (any_of HT_.out (by kernel_rfl)) (fun _ _ _ h => h) (Or.inl ⟨by rfl, ?_⟩) ?_ ?_
                      rotate_left
                      · intro w'
                        go_simp
                        with_reducible rfl
                      rotate_left
                      · simp only [Act.put, List.setIfInBounds_toArray, List.set_cons_zero, List.set_cons_succ, i64_w, i32_w]
                        rfl
                      refine pure_ (i := 3) (N := some 49) (v := ?_) (a' := ?_) #[false, false, true, true, false, false, false, false, false, false, false] rfl rfl (any_of HT_.out (by kernel_rfl)) (fun _ _ _ h => h) (Or.inl ⟨by rfl, ?_⟩) ?_ ?_
                      rotate_left
                      · intro w'
                        go_simp
                        with_reducible rfl
                      rotate_left
                      · simp only [Act.put, List.setIfInBounds_toArray, List.set_cons_zero, List.set_cons_succ, i64_w, i32_w]
                        rfl
                      refine pure_ (i := 7) (N := some 53) (v := ?_) (a' := ?_) #[false, false, true, true, false, false, false, true, false, false, false] rfl rfl (any_of HT_.out (by kernel_rfl)) (fun _ _ _ h => h) (Or.inl ⟨by rfl, ?_⟩) ?_ ?_
                      rotate_left
                      · intro w'
                        go_simp
                        with_reducible rfl
                      rotate_left
                      · simp only [Act.put, List.setIfInBounds_toArray, List.set_cons_zero, List.set_cons_succ, i64_w, i32_w]
                        rfl
                      refine pure_ (i := 8) (N := some 54) (v := ?_) (a' := ?_) #[false, false, true, true, false, false, false, true, true, false, false] rfl rfl (any_of HT_.out (by kernel_rfl)) (fun _ _ _ h => h) (Or.inl ⟨by rfl, ?_⟩) ?_ ?_
                      rotate_left
                      · intro w'
                        go_simp
                        with_reducible rfl
                      rotate_left
                      · simp only [Act.put, List.setIfInBounds_toArray, List.set_cons_zero, List.set_cons_succ, i64_w, i32_w]
                        rfl
                      refine take_ (i := 0) (N := some 46) (v := ?_) (a' := ?_) #[true, false, true, true, false, false, false, true, true, false, false] rfl rfl (take_ofW HT_.out HW_.out (by kernel_rfl)) (fun _ _ _ h => h) (Or.inl ⟨by rfl, ?_⟩) hHeld ?_ ?_
                      rotate_left
                      · rintro w' ⟨s0, s1, s2, s3, s4, s5⟩
                        go_simp
                        with_reducible rfl
                      rotate_left
                      · simp only [Act.put, List.setIfInBounds_toArray, List.set_cons_zero, List.set_cons_succ, i64_w, i32_w]
                        rfl
                      refine take_ (i := 1) (N := some 47) (v := ?_) (a' := ?_) #[true, true, true, true, false, false, false, true, true, false, false] rfl rfl (take_ofW HT_.out HW_.out (by kernel_rfl)) (fun _ _ _ h => h) (Or.inl ⟨by rfl, ?_⟩) hHeld ?_ ?_
                      rotate_left
                      · rintro w' ⟨s0, s1, s2, s3, s4, s5⟩
                        go_simp
                        with_reducible rfl
                      rotate_left
                      · simp only [Act.put, List.setIfInBounds_toArray, List.set_cons_zero, List.set_cons_succ, i64_w, i32_w]
                        rfl
                      refine take_ (i := 5) (N := some 51) (v := ?_) (a' := ?_) #[true, true, true, true, false, true, false, true, true, false, false] rfl rfl (take_ofW HT_.out HW_.out (by kernel_rfl)) (fun _ _ _ h => h) (Or.inl ⟨by rfl, ?_⟩) hHeld ?_ ?_
                      rotate_left
                      · rintro w' ⟨s0, s1, s2, s3, s4, s5⟩
                        go_simp
                        with_reducible rfl
                      rotate_left
                      · simp only [Act.put, List.setIfInBounds_toArray, List.set_cons_zero, List.set_cons_succ, i64_w, i32_w]
                        rfl
                      refine take_ (i := 6) (N := some 52) (v := ?_) (a' := ?_) #[true, true, true, true, false, true, true, true, true, false, false] rfl rfl (take_ofW HT_.out HW_.out (by kernel_rfl)) (fun _ _ _ h => h) (Or.inl ⟨by rfl, ?_⟩) hHeld ?_ ?_
                      rotate_left
                      · rintro w' ⟨s0, s1, s2, s3, s4, s5⟩
                        go_simp
                        with_reducible rfl
                      rotate_left
                      · simp only [Act.put, List.setIfInBounds_toArray, List.set_cons_zero, List.set_cons_succ, i64_w, i32_w]
                        rfl
                      refine one_ (i := 4) (N := some 50) #[true, true, true, true, true, true, true, true, true, false, false] rfl rfl (one_of HT_.out (by kernel_rfl)) (by decide) (fun K hK => ?_)
                      refine goes_ Try.func26 (by kernel_rfl) rfl #[.agg #[.int .i64 x370000_7, .int .i64 x370001_7, .int .i64 x370002_7, .slice Ao56 x370003_7.length co56], .agg #[.int .i64 x388000_42, .int .i64 x388001_42], .int .i64 x13_29, .int .i64 x14_29] (by rfl) rfl rfl q117_ ?_
                      with_reducible refine (plane_At.calls kj42 x370000_7 x370001_7 x370002_7 _ _ x370003_7 x388000_42 x388001_42 x13_29 x14_29 t388 _ ?side1 ?side2 A52.out).mono ?_
                      (case side1 => repeat (first | exact (Kd.R_reads' HO_370003.out).2.2 | (with_reducible refine Kd.C_alloc ?_ _) | (with_reducible refine Kd.C_drewN ?_ _) | (with_reducible refine Kd.C_drew ?_)))
                      (case side2 => exact (Kd.R_reads' HO_370003.out).2.1)
                      rintro e w57 ⟨rfl, hb⟩
                      refine ⟨_, rfl, ?_⟩
                      have n0_ := Aside0.mk (Kd.R_below q160_ hb)
                      have n1_ := Aside0.mk (blk_below (g := gb358) (o := .cells #[.int .i64 a3_0, .int .i64 a3_1] 45 (0, 0)) q156_ hb)
                      have n2_ := Aside0.mk (blk_below (g := gb369) (o := .cells #[.int .i64 x370000_7, .int .i64 x370001_7, .int .i64 x370002_7, .slice Ao56 x370003_7.length co56] 26 (0, 0)) q157_ hb)
                      have n3_ := Aside0.mk (blk_below (g := gb387) (o := .cells #[.int .i64 x388000_42, .int .i64 x388001_42] 45 (0, 0)) q158_ hb)
                      have n4_ := Aside0.mk (IsS54.below q22_ hb)
                      have n5_ := Aside0.mk (below_step q21_ hb)
                      clear HO_370003
                      clear BK358
                      clear BK369
                      clear BK387
                      clear HI361
                      clear HB
                      have HO_370003 := n0_
                      have BK358 := n1_
                      have BK369 := n2_
                      have BK387 := n3_
                      have HI361 := n4_
                      have HB := n5_
                      clear n0_ n1_ n2_ n3_ n4_ n5_
                      (try clear hb)
                      (try clear hb2)
                      (try clear hk)
                      (try clear hi)
                      refine hK.out _ _ ⟨(blk_cell BK369.out 0).trans rfl, (blk_cell BK369.out 1).trans rfl, (blk_cell BK369.out 2).trans rfl, (blk_cell BK369.out 3).trans rfl, (blk_cell BK387.out 0).trans rfl, (blk_cell BK387.out 1).trans rfl⟩ (fun hHeld => ?_)
                      clear hK K
                      refine norm_ (a' := ?_) ?_ ?_
                      rotate_left
                      · show Act.put _ (some 50) _ = _
                        simp only [Act.put, List.setIfInBounds_toArray, List.set_cons_zero, List.set_cons_succ, i64_w, i32_w]
                        rfl
                      refine one_ (i := 9) (N := some 55) #[true, true, true, true, true, true, true, true, true, true, false] rfl rfl (one_of HT_.out (by kernel_rfl)) (by decide) (fun K hK => ?_)
                      refine goes_ Try.func27 (by kernel_rfl) rfl #[.agg #[.int .i64 x370000_7, .int .i64 x370001_7, .int .i64 x370002_7, .slice Ao56 x370003_7.length co56], .agg #[.int .i64 x388000_42, .int .i64 x388001_42], .int .i64 x13_29, .int .i64 x14_29] (by rfl) rfl rfl q117_ ?_
                      with_reducible refine (tilefarmref4_At.calls kj42 x370000_7 x370001_7 x370002_7 _ _ x370003_7 x388000_42 x388001_42 x13_29 x14_29 t389 _ ?side1 ?side2 A53.out).mono ?_
                      (case side1 => repeat (first | exact (Kd.R_reads' HO_370003.out).2.2 | (with_reducible refine Kd.C_alloc ?_ _) | (with_reducible refine Kd.C_drewN ?_ _) | (with_reducible refine Kd.C_drew ?_)))
                      (case side2 => exact (Kd.R_reads' HO_370003.out).2.1)
                      rintro e w58 ⟨rfl, hb⟩
                      refine ⟨_, rfl, ?_⟩
                      have n0_ := Aside0.mk (Kd.R_below q160_ hb)
                      have n1_ := Aside0.mk (blk_below (g := gb358) (o := .cells #[.int .i64 a3_0, .int .i64 a3_1] 45 (0, 0)) q156_ hb)
                      have n2_ := Aside0.mk (blk_below (g := gb369) (o := .cells #[.int .i64 x370000_7, .int .i64 x370001_7, .int .i64 x370002_7, .slice Ao56 x370003_7.length co56] 26 (0, 0)) q157_ hb)
                      have n3_ := Aside0.mk (blk_below (g := gb387) (o := .cells #[.int .i64 x388000_42, .int .i64 x388001_42] 45 (0, 0)) q158_ hb)
                      have n4_ := Aside0.mk (IsS54.below q22_ hb)
                      have n5_ := Aside0.mk (below_step q21_ hb)
                      clear HO_370003
                      clear BK358
                      clear BK369
                      clear BK387
                      clear HI361
                      clear HB
                      have HO_370003 := n0_
                      have BK358 := n1_
                      have BK369 := n2_
                      have BK387 := n3_
                      have HI361 := n4_
                      have HB := n5_
                      clear n0_ n1_ n2_ n3_ n4_ n5_
                      (try clear hb)
                      (try clear hb2)
                      (try clear hk)
                      (try clear hi)
                      refine hK.out _ _ ⟨(blk_cell BK369.out 0).trans rfl, (blk_cell BK369.out 1).trans rfl, (blk_cell BK369.out 2).trans rfl, (blk_cell BK369.out 3).trans rfl, (blk_cell BK387.out 0).trans rfl, (blk_cell BK387.out 1).trans rfl⟩ (fun hHeld => ?_)
                      clear hK K
                      refine norm_ (a' := ?_) ?_ ?_
                      rotate_left
                      · show Act.put _ (some 55) _ = _
                        simp only [Act.put, List.setIfInBounds_toArray, List.set_cons_zero, List.set_cons_succ, i64_w, i32_w]
                        rfl
                      refine pure_ (i := 10) (N := some 56) (v := ?_) (a' := ?_) #[true, true, true, true, true, true, true, true, true, true, true] rfl rfl (any_of HT_.out (by kernel_rfl)) (fun _ _ _ h => h) (Or.inl ⟨by rfl, ?_⟩) ?_ ?_
                      rotate_left
                      · intro w'
                        go_simp
                        with_reducible rfl
                      rotate_left
                      · simp only [Act.put, List.setIfInBounds_toArray, List.set_cons_zero, List.set_cons_succ, i64_w, i32_w]
                        rfl
                      refine done_ (done_of HT_.out (by kernel_rfl)) ?_
                      try go_wp2
                      go_roundg kj42
                      case measure => have := HJ7.out; have := HK2.out; have := HJ29.out; have := HJ42.out; omega
                      case rel => exact ⟨(wrap64 (x11_2 + 1)), (t386), q178_, H', ⟨by have := HJ7.out; have := HK2.out; have := HJ29.out; have := HJ42.out; omega⟩, ⟨q160_⟩, ⟨q156_⟩, ⟨q157_⟩, ⟨q22_⟩, ⟨q21_⟩⟩
                    · rw [if_neg c54] at H
                      have c54b0 : (t388 == t389) = false := beq_eq_false_iff_ne.mpr c54
                      have c54b1 : (t388 != t389) = true := bne_iff_ne.mpr c54
                      exact absurd ((Option.some.inj H).trans HT.out) (by decide)
          · rw [if_neg c26] at H
            have c26b0 : decide (x11_2 < 8) = false := decide_eq_false c26
            clear c26
            replace H := Option.bind_eq_some_iff.mp H
            obtain ⟨t379, A590, H⟩ := H
            replace H : (some t379) = some r := H
            have A59 := Aside0.mk A590
            clear A590
            obtain rfl := Option.some.inj H
            go_wp2_with (first | ((with_reducible refine gate_callee (f := 18) rfl ?_); refine goesL_ (some 57) rfl rfl Try.func18 (by kernel_rfl) rfl #[] rfl q117_ ?_; (with_reducible refine (tilefarmlaw4_sane.calls k2  t379 _ A59.out).mono ?_); rintro e w60 ⟨rfl, hb⟩; refine ⟨_, rfl, ?_⟩; have n0_ := Aside0.mk (Kd.R_below q160_ hb); have n1_ := Aside0.mk (blk_below (g := gb358) (o := .cells #[.int .i64 a3_0, .int .i64 a3_1] 45 (0, 0)) q156_ hb); have n2_ := Aside0.mk (blk_below (g := gb369) (o := .cells #[.int .i64 x370000_7, .int .i64 x370001_7, .int .i64 x370002_7, u370003] 26 (0, 0)) q157_ hb); have n3_ := Aside0.mk (IsS54.below q48_ hb); have n4_ := Aside0.mk (below_step q44_ hb); clear HO_370003; clear BK358; clear BK369; clear HI361; clear HB; have HO_370003 := n0_; have BK358 := n1_; have BK369 := n2_; have HI361 := n3_; have HB := n4_; clear n0_ n1_ n2_ n3_ n4_; (try clear hb); (try clear hb2); (try clear hk); (try clear hi)))
            go_ret
            exact ⟨q175_, q44_⟩


def tilefarmlaw4_PlaneReads.Pure : Prop := ∀ (l0 : List Int) (a1 : Int) (a2 : Int) (a3_0 : Int) (a3_1 : Int), l0.length ≤ maxLen → l0.length * 8 ≤ 140737488351232 → (∀ x ∈ l0, (Lit.int .i64 x).wf = true) → (Lit.int .i64 a1).wf = true → (Lit.int .i64 a2).wf = true → (Lit.int .i64 a3_0).wf = true → (Lit.int .i64 a3_1).wf = true → ∃ k, tilefarmlaw4_PlaneReads.f k l0 a1 a2 a3_0 a3_1 = some true
theorem tilefarmlaw4_PlaneReads.walk (P : tilefarmlaw4_PlaneReads.Pure) (a0 : Option Addr) (len0 cap0 : Nat) (z0 : List Int) (a1 : Int) (a2 : Int) (a3_0 : Int) (a3_1 : Int) (w : World) (w0 : (a0 = none ∧ len0 = 0 ∧ cap0 = 0 ∧ z0 = []) ∨ ∃ x, a0 = some x ∧ len0 ≤ cap0 ∧ cap0 ≤ maxLen ∧ z0.length = cap0 ∧ (∀ i, i < z0.length → w.cell? (x.add i) = some (.int .i64 (z0.getD i 0))) ∧ ∀ n ∈ z0, (Lit.int .i64 n).wf = true) (y0 : len0 * 8 ≤ 140737488351232) (w1 : (Lit.int .i64 a1).wf = true) (w2 : (Lit.int .i64 a2).wf = true) (w3_0 : (Lit.int .i64 a3_0).wf = true) (w3_1 : (Lit.int .i64 a3_1).wf = true) :
    Calls Try.prog 5 #[.slice a0 len0 cap0, .int .i64 a1, .int .i64 a2, .agg #[.int .i64 a3_0, .int .i64 a3_1]] w fun e w' => e = .returned (.bool true) ∧ Below w.heap.size w w' := by
  obtain ⟨l0, rfl, hr0, hm0, hw0, hc0⟩ := ReadsInt.ofRowC w0
  obtain ⟨k, h⟩ := P l0 a1 a2 a3_0 a3_1 hm0 y0 hw0 w1 w2 w3_0 w3_1
  refine (tilefarmlaw4_PlaneReads.calls k _ _ l0 a1 a2 a3_0 a3_1 true w (Kd.C_of_reads (d := (0 : Int)) (h1 := fun _ => rfl) hr0) hc0 h).mono ?_
  rintro e w' ⟨rfl, hd⟩
  exact ⟨rfl, hd⟩

end Go.Proofs.Ytgkccacenlcebaa.PPlaneReads
