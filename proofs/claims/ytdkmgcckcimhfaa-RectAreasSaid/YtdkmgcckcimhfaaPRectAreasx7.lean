-- PRINTED BY print.sh 35421559b90ae4d0a3588c463048766b98c2df88dd9212a6774a882060cdf62d: not written by this session
import Derived.Test.YtdkmgcckcimhfaaPRectAreasx0
import Derived.Test.YtdkmgcckcimhfaaPRectAreasx2
import Derived.Test.YtdkmgcckcimhfaaPRectAreasx3
import Derived.Test.YtdkmgcckcimhfaaPRectAreasx4
import Derived.Test.YtdkmgcckcimhfaaPRectAreasx5
import Derived.Test.YtdkmgcckcimhfaaPRectAreasx6
namespace Go.Proofs.Ytdkmgcckcimhfaa.PRectAreas
open Go.RowKit Go.Proofs.YtdkmgcckcimhfaaW.PrintWords Go.Proofs.YtdkmgcckcimhfaaW.PrintLast Go.Proofs.YtdkmgcckcimhfaaW.PrintMore
attribute [local go_sem] max2_int min2_int max_two min_two max_three min_three max_four min_four   -- for this text's walks alone
set_option linter.unusedVariables false
set_option linter.unusedSimpArgs false

/-! ### tilefarmlaw2_RectAreas: function 3 -/
mutual
def tilefarmlaw2_RectAreas.j0 : Nat → Bool → Int → Int → Int → Int → Int → Int → Int → Int → Option (Bool)
  | 0, _, _, _, _, _, _, _, _, _ => none
  | k + 1, x22, x205000, x205001, x205002, x205003, x206000, x206001, x206002, x206003 => if x22 = true then ((tilefarmlaw2_sane.f k).bind fun t208 => (some t208)) else ((rect_Subtract.f k x205000 x205001 x205002 x205003 x206000 x206001 x206002 x206003).bind fun t209 => ((rect_Intersect.f k x205000 x205001 x205002 x205003 x206000 x206001 x206002 x206003).bind fun bt212 => ((rect_Area.f bt212.1 bt212.2.1 bt212.2.2.1 bt212.2.2.2).bind fun t216 => (tilefarmlaw2_RectAreas.l0 k t209 t216 0 x205000 x205001 x205002 x205003 x206000 x206001 x206002 x206003))))
def tilefarmlaw2_RectAreas.l0 : Nat → List (S26) → Int → Int → Int → Int → Int → Int → Int → Int → Int → Int → Option (Bool)
  | 0, _, _, _, _, _, _, _, _, _, _, _ => none
  | k + 1, x6, x7, x8, x205000, x205001, x205002, x205003, x206000, x206001, x206002, x206003 => if x8 < (x6.length : Int) then (if 0 ≤ x8 then ((rect_Area.f ((rd_T26 x6 x8).f0) ((rd_T26 x6 x8).f1) ((rd_T26 x6 x8).f2) ((rd_T26 x6 x8).f3)).bind fun t218 => (tilefarmlaw2_RectAreas.l0 k x6 (wrap64 (x7 + t218)) (wrap64 (x8 + 1)) x205000 x205001 x205002 x205003 x206000 x206001 x206002 x206003)) else (none)) else ((rect_Area.f x205000 x205001 x205002 x205003).bind fun t219 => (if x7 = t219 then ((rect_Inside.f k x205000 x205001 x205002 x205003 x206000 x206001 x206002 x206003).bind fun t220 => (if (t220 == ((x6.length : Int) == 0)) = true then ((tilefarmlaw2_sane.f k).bind fun t221 => (some t221)) else (some false))) else (some false)))
end
def tilefarmlaw2_RectAreas.f (k : Nat) (l0 : List Int) : Option (Bool) := (tilefarmgen_New.f l0).bind fun bt191 => ((tilefarmgen_Tape_Rect.f bt191.1 bt191.2).bind fun bt194 => ((tilefarmgen_Tape_Rect.f bt191.1 bt194.2.2.2.2).bind fun bt199 => ((tilefarmref2_Valid.f bt194.1 bt194.2.1 bt194.2.2.1 bt194.2.2.2.1).bind fun t206 => (if t206 = true then ((tilefarmref2_Valid.f bt199.1 bt199.2.1 bt199.2.2.1 bt199.2.2.2.1).bind fun t207 => (tilefarmlaw2_RectAreas.j0 k (!t207) bt194.1 bt194.2.1 bt194.2.2.1 bt194.2.2.2.1 bt199.1 bt199.2.1 bt199.2.2.1 bt199.2.2.2.1)) else (tilefarmlaw2_RectAreas.j0 k true bt194.1 bt194.2.1 bt194.2.2.1 bt194.2.2.2.1 bt199.1 bt199.2.1 bt199.2.2.1 bt199.2.2.2.1)))))
theorem tilefarmlaw2_RectAreas.mono_l : ∀ k, (∀ y0 y1 y2 y3 y4 y5 y6 y7 y8, LeO (tilefarmlaw2_RectAreas.j0 k y0 y1 y2 y3 y4 y5 y6 y7 y8) (tilefarmlaw2_RectAreas.j0 (k + 1) y0 y1 y2 y3 y4 y5 y6 y7 y8)) ∧ (∀ y0 y1 y2 y3 y4 y5 y6 y7 y8 y9 y10, LeO (tilefarmlaw2_RectAreas.l0 k y0 y1 y2 y3 y4 y5 y6 y7 y8 y9 y10) (tilefarmlaw2_RectAreas.l0 (k + 1) y0 y1 y2 y3 y4 y5 y6 y7 y8 y9 y10))
  | 0 => ⟨fun _ _ _ _ _ _ _ _ _ r h => by simp [tilefarmlaw2_RectAreas.j0] at h, fun _ _ _ _ _ _ _ _ _ _ _ r h => by simp [tilefarmlaw2_RectAreas.l0] at h⟩
  | k + 1 => by
    obtain ⟨ih0, ih1⟩ := tilefarmlaw2_RectAreas.mono_l k
    refine ⟨?_, ?_⟩
    · intro y0 y1 y2 y3 y4 y5 y6 y7 y8
      unfold tilefarmlaw2_RectAreas.j0
      repeat' first
      | (with_reducible exact ih0 _ _ _ _ _ _ _ _ _)
      | (with_reducible exact ih1 _ _ _ _ _ _ _ _ _ _ _)
      | (with_reducible exact rect_Inside.mono _ _ _ _ _ _ _ _ _)
      | (with_reducible exact rect_Intersect.mono _ _ _ _ _ _ _ _ _)
      | (with_reducible exact rect_Subtract.mono _ _ _ _ _ _ _ _ _)
      | (with_reducible exact tilefarmlaw2_sane.mono _)
      | (with_reducible exact LeO.refl _)
      | (with_reducible exact LeO.none _)
      | (with_reducible refine LeO.ite ?_ ?_)
      | (with_reducible refine LeO.bind ?_ (fun _ => ?_))
      | exact ih0 _ _ _ _ _ _ _ _ _
      | exact ih1 _ _ _ _ _ _ _ _ _ _ _
      | exact rect_Inside.mono _ _ _ _ _ _ _ _ _
      | exact rect_Intersect.mono _ _ _ _ _ _ _ _ _
      | exact rect_Subtract.mono _ _ _ _ _ _ _ _ _
      | exact tilefarmlaw2_sane.mono _
      | exact LeO.none _
      | refine LeO.ite ?_ ?_
      | refine LeO.bind ?_ (fun _ => ?_)
    · intro y0 y1 y2 y3 y4 y5 y6 y7 y8 y9 y10
      unfold tilefarmlaw2_RectAreas.l0
      repeat' first
      | (with_reducible exact ih0 _ _ _ _ _ _ _ _ _)
      | (with_reducible exact ih1 _ _ _ _ _ _ _ _ _ _ _)
      | (with_reducible exact rect_Inside.mono _ _ _ _ _ _ _ _ _)
      | (with_reducible exact rect_Intersect.mono _ _ _ _ _ _ _ _ _)
      | (with_reducible exact rect_Subtract.mono _ _ _ _ _ _ _ _ _)
      | (with_reducible exact tilefarmlaw2_sane.mono _)
      | (with_reducible exact LeO.refl _)
      | (with_reducible exact LeO.none _)
      | (with_reducible refine LeO.ite ?_ ?_)
      | (with_reducible refine LeO.bind ?_ (fun _ => ?_))
      | exact ih0 _ _ _ _ _ _ _ _ _
      | exact ih1 _ _ _ _ _ _ _ _ _ _ _
      | exact rect_Inside.mono _ _ _ _ _ _ _ _ _
      | exact rect_Intersect.mono _ _ _ _ _ _ _ _ _
      | exact rect_Subtract.mono _ _ _ _ _ _ _ _ _
      | exact tilefarmlaw2_sane.mono _
      | exact LeO.none _
      | refine LeO.ite ?_ ?_
      | refine LeO.bind ?_ (fun _ => ?_)
theorem tilefarmlaw2_RectAreas.mono : ∀ a0 k, LeO (tilefarmlaw2_RectAreas.f k a0) (tilefarmlaw2_RectAreas.f (k + 1) a0) := by
  intro a0 k
  obtain ⟨ih0, ih1⟩ := tilefarmlaw2_RectAreas.mono_l k
  unfold tilefarmlaw2_RectAreas.f
  repeat' first
      | (with_reducible exact ih0 _ _ _ _ _ _ _ _ _)
      | (with_reducible exact ih1 _ _ _ _ _ _ _ _ _ _ _)
      | (with_reducible exact rect_Inside.mono _ _ _ _ _ _ _ _ _)
      | (with_reducible exact rect_Intersect.mono _ _ _ _ _ _ _ _ _)
      | (with_reducible exact rect_Subtract.mono _ _ _ _ _ _ _ _ _)
      | (with_reducible exact tilefarmlaw2_sane.mono _)
      | (with_reducible exact LeO.refl _)
      | (with_reducible exact LeO.none _)
      | (with_reducible refine LeO.ite ?_ ?_)
      | (with_reducible refine LeO.bind ?_ (fun _ => ?_))
      | exact ih0 _ _ _ _ _ _ _ _ _
      | exact ih1 _ _ _ _ _ _ _ _ _ _ _
      | exact rect_Inside.mono _ _ _ _ _ _ _ _ _
      | exact rect_Intersect.mono _ _ _ _ _ _ _ _ _
      | exact rect_Subtract.mono _ _ _ _ _ _ _ _ _
      | exact tilefarmlaw2_sane.mono _
      | exact LeO.none _
      | refine LeO.ite ?_ ?_
      | refine LeO.bind ?_ (fun _ => ?_)
set_option maxHeartbeats 8000000 in
set_option maxRecDepth 100000 in
theorem tilefarmlaw2_RectAreas.calls (k : Nat) (A0 : Option Addr) (c0 : Nat) (l0 : List Int) (r : Bool) (w : World) (hr0 : Kd.C (Kd.int .i64) w A0 l0.length l0) (hc0 : l0.length ≤ c0) (h : tilefarmlaw2_RectAreas.f k l0 = some r) :
    Calls Try.prog 3 #[.slice A0 l0.length c0] w fun e w' => e = .returned (.bool r) ∧ Below w.heap.size w w' := by
  have hu26 := Try.underlying26
  have HR0 := Aside0.mk hr0
  have HC0 := Aside0.mk hc0
  clear hr0 hc0
  have HB := Aside0.mk (Below.refl w.heap.size w)
  have H : ((tilefarmgen_New.f l0).bind fun bt191 => ((tilefarmgen_Tape_Rect.f bt191.1 bt191.2).bind fun bt194 => ((tilefarmgen_Tape_Rect.f bt191.1 bt194.2.2.2.2).bind fun bt199 => ((tilefarmref2_Valid.f bt194.1 bt194.2.1 bt194.2.2.1 bt194.2.2.2.1).bind fun t206 => (if t206 = true then ((tilefarmref2_Valid.f bt199.1 bt199.2.1 bt199.2.2.1 bt199.2.2.2.1).bind fun t207 => (tilefarmlaw2_RectAreas.j0 k (!t207) bt194.1 bt194.2.1 bt194.2.2.1 bt194.2.2.2.1 bt199.1 bt199.2.1 bt199.2.2.1 bt199.2.2.2.1)) else (tilefarmlaw2_RectAreas.j0 k true bt194.1 bt194.2.1 bt194.2.2.1 bt194.2.2.2.1 bt199.1 bt199.2.1 bt199.2.2.1 bt199.2.2.2.1)))))) = some r := h
  clear h
  replace H := Option.bind_eq_some_iff.mp H
  obtain ⟨⟨t191, t192⟩, A20, H⟩ := H
  replace H : ((tilefarmgen_Tape_Rect.f t191 t192).bind fun bt194 => ((tilefarmgen_Tape_Rect.f t191 bt194.2.2.2.2).bind fun bt199 => ((tilefarmref2_Valid.f bt194.1 bt194.2.1 bt194.2.2.1 bt194.2.2.2.1).bind fun t206 => (if t206 = true then ((tilefarmref2_Valid.f bt199.1 bt199.2.1 bt199.2.2.1 bt199.2.2.2.1).bind fun t207 => (tilefarmlaw2_RectAreas.j0 k (!t207) bt194.1 bt194.2.1 bt194.2.2.1 bt194.2.2.2.1 bt199.1 bt199.2.1 bt199.2.2.1 bt199.2.2.2.1)) else (tilefarmlaw2_RectAreas.j0 k true bt194.1 bt194.2.1 bt194.2.2.1 bt194.2.2.2.1 bt199.1 bt199.2.1 bt199.2.2.1 bt199.2.2.2.1))))) = some r := H
  have A2 := Aside0.mk A20
  clear A20
  replace H := Option.bind_eq_some_iff.mp H
  obtain ⟨⟨t194, t195, t196, t197, t198⟩, A30, H⟩ := H
  replace H : ((tilefarmgen_Tape_Rect.f t191 t198).bind fun bt199 => ((tilefarmref2_Valid.f t194 t195 t196 t197).bind fun t206 => (if t206 = true then ((tilefarmref2_Valid.f bt199.1 bt199.2.1 bt199.2.2.1 bt199.2.2.2.1).bind fun t207 => (tilefarmlaw2_RectAreas.j0 k (!t207) t194 t195 t196 t197 bt199.1 bt199.2.1 bt199.2.2.1 bt199.2.2.2.1)) else (tilefarmlaw2_RectAreas.j0 k true t194 t195 t196 t197 bt199.1 bt199.2.1 bt199.2.2.1 bt199.2.2.2.1)))) = some r := H
  have A3 := Aside0.mk A30
  clear A30
  replace H := Option.bind_eq_some_iff.mp H
  obtain ⟨⟨t199, t200, t201, t202, t203⟩, A40, H⟩ := H
  replace H : ((tilefarmref2_Valid.f t194 t195 t196 t197).bind fun t206 => (if t206 = true then ((tilefarmref2_Valid.f t199 t200 t201 t202).bind fun t207 => (tilefarmlaw2_RectAreas.j0 k (!t207) t194 t195 t196 t197 t199 t200 t201 t202)) else (tilefarmlaw2_RectAreas.j0 k true t194 t195 t196 t197 t199 t200 t201 t202))) = some r := H
  have A4 := Aside0.mk A40
  clear A40
  have HC5 := Aside0.mk H
  clear H
  go_enter Try.func3, Try.ntmps3
  go_upto_region 3 with (first | ((with_reducible refine gate_callee (f := 7) rfl ?_); refine goesL_ (some 10) rfl rfl Try.func7 (by kernel_rfl) rfl #[.slice A0 l0.length c0] rfl (by (try simp only [List.map_toArray, List.map_cons, List.map_nil]); first | done | rfl | (simp only [List.length_drop, List.length_take]; rfl)) ?_; (with_reducible refine (tilefarmgen_New.calls _ _ l0 t191 t192 w _ ?side1 ?side2 ?side3 A2.out).mono ?_); (case side1 => repeat (first | (with_reducible first | exact HB.out | apply below_alloc | apply pw_below_drewN | apply below_drew1) | exact HB.out)); (case side2 => exact HR0.out); (case side3 => exact HC0.out); rintro e w6 ⟨g193, rfl, hi, hb, hb2⟩; refine ⟨_, rfl, ?_⟩; have n0_ := Aside0.mk (hb); have n1_ := Aside0.mk (hi); clear HB; have HB := n0_; have HI193 := n1_; clear n0_ n1_; (try clear hb); (try clear hb2); (try clear hk); (try clear hi)) | ((with_reducible refine gate_callee (f := 8) rfl ?_); refine goesL_ (some 12) rfl rfl Try.func8 (by kernel_rfl) rfl #[.pointer (some ⟨g193, 0, none⟩)] rfl (by (try simp only [List.map_toArray, List.map_cons, List.map_nil]); first | done | rfl | (simp only [List.length_drop, List.length_take]; rfl)) ?_; (with_reducible refine (tilefarmgen_Tape_Rect.calls g193 t191 t192 t194 t195 t196 t197 t198 w _ ?side1 ?side2 A3.out).mono ?_); (case side1 => repeat (first | (with_reducible first | exact HI193.out | apply IsS46.alloc | apply IsS46.drewN | apply IsS46.drew | apply IsS46.set_1) | exact HI193.out)); (case side2 => repeat (first | (with_reducible first | exact HB.out | apply below_alloc | apply pw_below_drewN | apply below_drew1 | refine below_set ?_ (IsS46.ge HI193.out)) | exact HB.out)); rintro e w7 ⟨rfl, hi, hb, hk⟩; refine ⟨_, rfl, ?_⟩; have n0_ := Aside0.mk (hb); have n1_ := Aside0.mk (hi); clear HB; clear HI193; have HB := n0_; have HI193 := n1_; clear n0_ n1_; (try clear hb); (try clear hb2); (try clear hk); (try clear hi)) | ((with_reducible refine gate_callee (f := 8) rfl ?_); refine goesL_ (some 14) rfl rfl Try.func8 (by kernel_rfl) rfl #[.pointer (some ⟨g193, 0, none⟩)] rfl (by (try simp only [List.map_toArray, List.map_cons, List.map_nil]); first | done | rfl | (simp only [List.length_drop, List.length_take]; rfl)) ?_; (with_reducible refine (tilefarmgen_Tape_Rect.calls g193 t191 t198 t199 t200 t201 t202 t203 w _ ?side1 ?side2 A4.out).mono ?_); (case side1 => repeat (first | (with_reducible first | exact HI193.out | apply IsS46.alloc | apply IsS46.drewN | apply IsS46.drew | apply IsS46.set_1) | exact HI193.out)); (case side2 => repeat (first | (with_reducible first | exact HB.out | apply below_alloc | apply pw_below_drewN | apply below_drew1 | refine below_set ?_ (IsS46.ge HI193.out)) | exact HB.out)); rintro e w8 ⟨rfl, hi, hb, hk⟩; refine ⟨_, rfl, ?_⟩; have n0_ := Aside0.mk (hb); have n1_ := Aside0.mk (hi); clear HB; clear HI193; have HB := n0_; have HI193 := n1_; clear n0_ n1_; (try clear hb); (try clear hb2); (try clear hk); (try clear hi)) | ((with_reducible refine gate_dst (N := 4) rfl ?_); (try (refine gate_guard (by rfl) ?_; dsimp only)); refine box_event ?hg (N := 4) ?hd (cs := #[.int .i64 0, .int .i64 0, .int .i64 0, .int .i64 0]) (t := 26) ?hr ?_; (case hd => rfl); (case hg => rfl); (case hr => first | (go_simp; done) | (go_simp; rfl)); intro gb204 hg w9 hbox hb; have n0_ := Aside0.mk (IsS46.below (by repeat (first | (with_reducible first | exact HI193.out | apply IsS46.alloc | apply IsS46.drewN | apply IsS46.drew | apply IsS46.set_1) | exact HI193.out)) hb); have n1_ := Aside0.mk (below_step (by repeat (first | (with_reducible first | exact HB.out | apply below_alloc | apply pw_below_drewN | apply below_drew1 | refine below_set ?_ (IsS46.ge HI193.out)) | exact HB.out)) hb); have n2_ := Aside0.mk (hbox); have n3_ := Aside0.mk ((by rw [hg]; exact (below_size (by repeat (first | (with_reducible first | exact HB.out | apply below_alloc | apply pw_below_drewN | apply below_drew1 | refine below_set ?_ (IsS46.ge HI193.out)) | exact HB.out))) : w.heap.size ≤ gb204)); have n4_ := Aside0.mk ((by rw [hg]; exact (below_size (by repeat (first | (with_reducible first | exact HB.out | apply below_alloc | apply pw_below_drewN | apply below_drew1 | refine below_set ?_ (IsS46.ge HI193.out)) | exact HB.out))) : w.heap.size ≤ gb204)); have n5_ := Aside0.mk ((by rw [hg]; exact Nat.ne_of_lt (IsS46.lt (show IsS46 w _ g193 t191 t203 from by repeat (first | (with_reducible first | exact HI193.out | apply IsS46.alloc | apply IsS46.drewN | apply IsS46.drew | apply IsS46.set_1) | exact HI193.out))) : g193 ≠ gb204)); have n6_ := Aside0.mk ((by rw [hg]; exact Nat.ne_of_gt (IsS46.lt (show IsS46 w _ g193 t191 t203 from by repeat (first | (with_reducible first | exact HI193.out | apply IsS46.alloc | apply IsS46.drewN | apply IsS46.drew | apply IsS46.set_1) | exact HI193.out))) : gb204 ≠ g193)); clear HI193; clear HB; have HI193 := n0_; have HB := n1_; have BK204 := n2_; have GW204 := n3_; have GE204 := n4_; have NB193_204 := n5_; have NB204_193 := n6_; clear n0_ n1_ n2_ n3_ n4_ n5_ n6_; clear hb hbox hg) | ((with_reducible refine gate_dst (N := 5) rfl ?_); (try (refine gate_guard (by rfl) ?_; dsimp only)); refine box_event ?hg (N := 5) ?hd (cs := #[.int .i64 0, .int .i64 0, .int .i64 0, .int .i64 0]) (t := 26) ?hr ?_; (case hd => rfl); (case hg => rfl); (case hr => first | (go_simp; done) | (go_simp; rfl)); intro gb205 hg w10 hbox hb; have n0_ := Aside0.mk (IsS46.below (by repeat (first | (with_reducible first | exact HI193.out | apply IsS46.alloc | apply IsS46.drewN | apply IsS46.drew | apply IsS46.set_1 | refine IsS46.far ?_ NB193_204.out _) | exact HI193.out)) hb); have n1_ := Aside0.mk (blk_below (g := gb204) (o := .cells #[.int .i64 0, .int .i64 0, .int .i64 0, .int .i64 0] 26 (0, 0)) (by (with_reducible repeat (first | refine blk_drewN ?_ _ | refine blk_drew ?_ | refine blk_alloc ?_ _)); exact BK204.out) hb); have n2_ := Aside0.mk (below_step (by repeat (first | (with_reducible first | exact HB.out | apply below_alloc | apply pw_below_drewN | apply below_drew1 | refine below_set ?_ (IsS46.ge HI193.out) | refine below_set ?_ GE204.out) | exact HB.out)) hb); have n3_ := Aside0.mk (hbox); have n4_ := Aside0.mk ((by rw [hg]; exact (below_size (by repeat (first | (with_reducible first | exact HB.out | apply below_alloc | apply pw_below_drewN | apply below_drew1 | refine below_set ?_ (IsS46.ge HI193.out) | refine below_set ?_ GE204.out) | exact HB.out))) : w.heap.size ≤ gb205)); have n5_ := Aside0.mk ((by rw [hg]; exact (below_size (by repeat (first | (with_reducible first | exact HB.out | apply below_alloc | apply pw_below_drewN | apply below_drew1 | refine below_set ?_ (IsS46.ge HI193.out) | refine below_set ?_ GE204.out) | exact HB.out))) : w.heap.size ≤ gb205)); have n6_ := Aside0.mk ((by rw [hg]; exact Nat.ne_of_lt (blk_lt (g := gb204) (o := .cells #[.int .i64 0, .int .i64 0, .int .i64 0, .int .i64 0] 26 (0, 0)) (by (with_reducible repeat (first | refine blk_drewN ?_ _ | refine blk_drew ?_ | refine blk_alloc ?_ _)); exact BK204.out)) : gb204 ≠ gb205)); have n7_ := Aside0.mk ((by rw [hg]; exact Nat.ne_of_gt (blk_lt (g := gb204) (o := .cells #[.int .i64 0, .int .i64 0, .int .i64 0, .int .i64 0] 26 (0, 0)) (by (with_reducible repeat (first | refine blk_drewN ?_ _ | refine blk_drew ?_ | refine blk_alloc ?_ _)); exact BK204.out)) : gb205 ≠ gb204)); have n8_ := Aside0.mk ((by rw [hg]; exact Nat.ne_of_lt (IsS46.lt (show IsS46 w _ g193 t191 t203 from by repeat (first | (with_reducible first | exact HI193.out | apply IsS46.alloc | apply IsS46.drewN | apply IsS46.drew | apply IsS46.set_1 | refine IsS46.far ?_ NB193_204.out _) | exact HI193.out))) : g193 ≠ gb205)); have n9_ := Aside0.mk ((by rw [hg]; exact Nat.ne_of_gt (IsS46.lt (show IsS46 w _ g193 t191 t203 from by repeat (first | (with_reducible first | exact HI193.out | apply IsS46.alloc | apply IsS46.drewN | apply IsS46.drew | apply IsS46.set_1 | refine IsS46.far ?_ NB193_204.out _) | exact HI193.out))) : gb205 ≠ g193)); clear HI193; clear BK204; clear HB; have HI193 := n0_; have BK204 := n1_; have HB := n2_; have BK205 := n3_; have GW205 := n4_; have GE205 := n5_; have NB204_205 := n6_; have NB205_204 := n7_; have NB193_205 := n8_; have NB205_193 := n9_; clear n0_ n1_ n2_ n3_ n4_ n5_ n6_ n7_ n8_ n9_; clear hb hbox hg; have hnb11 := NB204_205.out; have hnc11 := NB205_204.out; have hnb12 := NB204_193.out; have hnc12 := NB193_204.out; have hcz13_0 : w10.cell? ⟨gb204, 0, none⟩ = some (.int .i64 0) := (blk_cell BK204.out 0).trans rfl; have hcz13_1 : w10.cell? ⟨gb204, 1, none⟩ = some (.int .i64 0) := (blk_cell BK204.out 1).trans rfl; have hcz13_2 : w10.cell? ⟨gb204, 2, none⟩ = some (.int .i64 0) := (blk_cell BK204.out 2).trans rfl; have hcz13_3 : w10.cell? ⟨gb204, 3, none⟩ = some (.int .i64 0) := (blk_cell BK204.out 3).trans rfl; have hfz13_0 := blk_frozen BK204.out 0; have hfz13_1 := blk_frozen BK204.out 1; have hfz13_2 := blk_frozen BK204.out 2; have hfz13_3 := blk_frozen BK204.out 3; have hnb14 := NB205_193.out; have hnc14 := NB193_205.out; have hcz15_0 : w10.cell? ⟨gb205, 0, none⟩ = some (.int .i64 0) := (blk_cell BK205.out 0).trans rfl; have hcz15_1 : w10.cell? ⟨gb205, 1, none⟩ = some (.int .i64 0) := (blk_cell BK205.out 1).trans rfl; have hcz15_2 : w10.cell? ⟨gb205, 2, none⟩ = some (.int .i64 0) := (blk_cell BK205.out 2).trans rfl; have hcz15_3 : w10.cell? ⟨gb205, 3, none⟩ = some (.int .i64 0) := (blk_cell BK205.out 3).trans rfl; have hfz15_0 := blk_frozen BK205.out 0; have hfz15_1 := blk_frozen BK205.out 1; have hfz15_2 := blk_frozen BK205.out 2; have hfz15_3 := blk_frozen BK205.out 3))
  (try simp only [Act.put, List.setIfInBounds_toArray, List.set_cons_zero, List.set_cons_succ])
  go_cut [22] (fun v22 wc => ∃ (kq : Nat) (x22_4 : Bool), v22 = .bool x22_4 ∧ Aside0 (tilefarmlaw2_RectAreas.j0 kq x22_4 t194 t195 t196 t197 t199 t200 t201 t202 = some r) ∧ Aside0 (kq ≤ k) ∧ Aside0 (wc.heap[gb204]? = some (.cells #[.int .i64 t194, .int .i64 t195, .int .i64 t196, .int .i64 t197] 26 (0, 0))) ∧ Aside0 (wc.heap[gb205]? = some (.cells #[.int .i64 t199, .int .i64 t200, .int .i64 t201, .int .i64 t202] 26 (0, 0))) ∧ Aside0 (Below w.heap.size w wc))
  case first =>
    have H := HC5.out
    clear HC5
    replace H := Option.bind_eq_some_iff.mp H
    obtain ⟨t206, A160, H⟩ := H
    replace H : (if t206 = true then ((tilefarmref2_Valid.f t199 t200 t201 t202).bind fun t207 => (tilefarmlaw2_RectAreas.j0 k (!t207) t194 t195 t196 t197 t199 t200 t201 t202)) else (tilefarmlaw2_RectAreas.j0 k true t194 t195 t196 t197 t199 t200 t201 t202)) = some r := H
    have A16 := Aside0.mk A160
    clear A160
    by_cases c17 : t206 = true
    · subst c17
      have H1 : ((tilefarmref2_Valid.f t199 t200 t201 t202).bind fun t207 => (tilefarmlaw2_RectAreas.j0 k (!t207) t194 t195 t196 t197 t199 t200 t201 t202)) = some r := by rw [if_pos rfl] at H; exact H
      clear H
      have H := H1
      clear H1
      replace H := Option.bind_eq_some_iff.mp H
      obtain ⟨t207, A180, H⟩ := H
      replace H : (tilefarmlaw2_RectAreas.j0 k (!t207) t194 t195 t196 t197 t199 t200 t201 t202) = some r := H
      have A18 := Aside0.mk A180
      clear A180
      have H' := Aside0.mk H
      clear H
      have hnb19 := NB204_205.out
      have hnc19 := NB205_204.out
      have hnb20 := NB204_193.out
      have hnc20 := NB193_204.out
      have hcz21_0 : w10.cell? ⟨gb204, 0, none⟩ = some (.int .i64 0) := (blk_cell BK204.out 0).trans rfl
      have hcz21_1 : w10.cell? ⟨gb204, 1, none⟩ = some (.int .i64 0) := (blk_cell BK204.out 1).trans rfl
      have hcz21_2 : w10.cell? ⟨gb204, 2, none⟩ = some (.int .i64 0) := (blk_cell BK204.out 2).trans rfl
      have hcz21_3 : w10.cell? ⟨gb204, 3, none⟩ = some (.int .i64 0) := (blk_cell BK204.out 3).trans rfl
      have hfz21_0 := blk_frozen BK204.out 0
      have hfz21_1 := blk_frozen BK204.out 1
      have hfz21_2 := blk_frozen BK204.out 2
      have hfz21_3 := blk_frozen BK204.out 3
      go_wp2_with (first | ((with_reducible refine gate_callee (f := 9) rfl ?_); refine goesL_ (some 16) rfl rfl Try.func9 (by kernel_rfl) rfl #[.agg #[.int .i64 t194, .int .i64 t195, .int .i64 t196, .int .i64 t197]] rfl (by (try simp only [List.map_toArray, List.map_cons, List.map_nil]); first | done | rfl | (simp only [List.length_drop, List.length_take]; rfl)) ?_; (with_reducible refine (tilefarmref2_Valid.calls t194 t195 t196 t197 true _ A16.out).mono ?_); rintro e w22 ⟨rfl, hb⟩; refine ⟨_, rfl, ?_⟩; have n0_ := Aside0.mk (IsS46.below (show IsS46 w ((((((((w10.setCell ⟨gb204, 0, none⟩ (.int .i64 t194)).setCell ⟨gb204, 1, none⟩ (.int .i64 t195)).setCell ⟨gb204, 2, none⟩ (.int .i64 t196)).setCell ⟨gb204, 3, none⟩ (.int .i64 t197)).setCell ⟨gb205, 0, none⟩ (.int .i64 t199)).setCell ⟨gb205, 1, none⟩ (.int .i64 t200)).setCell ⟨gb205, 2, none⟩ (.int .i64 t201)).setCell ⟨gb205, 3, none⟩ (.int .i64 t202)) g193 t191 t203 from by repeat (first | (with_reducible first | exact HI193.out | apply IsS46.alloc | apply IsS46.drewN | apply IsS46.drew | apply IsS46.set_1 | refine IsS46.far ?_ NB193_204.out _ | refine IsS46.far ?_ NB193_205.out _) | exact HI193.out)) hb); have n1_ := Aside0.mk (blk_below (g := gb204) (o := .cells #[.int .i64 t194, .int .i64 t195, .int .i64 t196, .int .i64 t197] 26 (0, 0)) (by (with_reducible repeat (first | refine blk_drewN ?_ _ | refine blk_drew ?_ | refine blk_alloc ?_ _)); refine blk_far ?_ NB204_205.out _; (with_reducible repeat (first | refine blk_drewN ?_ _ | refine blk_drew ?_ | refine blk_alloc ?_ _)); refine blk_far ?_ NB204_205.out _; (with_reducible repeat (first | refine blk_drewN ?_ _ | refine blk_drew ?_ | refine blk_alloc ?_ _)); refine blk_far ?_ NB204_205.out _; (with_reducible repeat (first | refine blk_drewN ?_ _ | refine blk_drew ?_ | refine blk_alloc ?_ _)); refine blk_far ?_ NB204_205.out _; (with_reducible repeat (first | refine blk_drewN ?_ _ | refine blk_drew ?_ | refine blk_alloc ?_ _)); refine blk_put (cs := #[.int .i64 t194, .int .i64 t195, .int .i64 t196, .int .i64 0]) ?_ 3 _ rfl; (with_reducible repeat (first | refine blk_drewN ?_ _ | refine blk_drew ?_ | refine blk_alloc ?_ _)); refine blk_put (cs := #[.int .i64 t194, .int .i64 t195, .int .i64 0, .int .i64 0]) ?_ 2 _ rfl; (with_reducible repeat (first | refine blk_drewN ?_ _ | refine blk_drew ?_ | refine blk_alloc ?_ _)); refine blk_put (cs := #[.int .i64 t194, .int .i64 0, .int .i64 0, .int .i64 0]) ?_ 1 _ rfl; (with_reducible repeat (first | refine blk_drewN ?_ _ | refine blk_drew ?_ | refine blk_alloc ?_ _)); refine blk_put (cs := #[.int .i64 0, .int .i64 0, .int .i64 0, .int .i64 0]) ?_ 0 _ rfl; (with_reducible repeat (first | refine blk_drewN ?_ _ | refine blk_drew ?_ | refine blk_alloc ?_ _)); exact BK204.out) hb); have n2_ := Aside0.mk (blk_below (g := gb205) (o := .cells #[.int .i64 t199, .int .i64 t200, .int .i64 t201, .int .i64 t202] 26 (0, 0)) (by (with_reducible repeat (first | refine blk_drewN ?_ _ | refine blk_drew ?_ | refine blk_alloc ?_ _)); refine blk_put (cs := #[.int .i64 t199, .int .i64 t200, .int .i64 t201, .int .i64 0]) ?_ 3 _ rfl; (with_reducible repeat (first | refine blk_drewN ?_ _ | refine blk_drew ?_ | refine blk_alloc ?_ _)); refine blk_put (cs := #[.int .i64 t199, .int .i64 t200, .int .i64 0, .int .i64 0]) ?_ 2 _ rfl; (with_reducible repeat (first | refine blk_drewN ?_ _ | refine blk_drew ?_ | refine blk_alloc ?_ _)); refine blk_put (cs := #[.int .i64 t199, .int .i64 0, .int .i64 0, .int .i64 0]) ?_ 1 _ rfl; (with_reducible repeat (first | refine blk_drewN ?_ _ | refine blk_drew ?_ | refine blk_alloc ?_ _)); refine blk_put (cs := #[.int .i64 0, .int .i64 0, .int .i64 0, .int .i64 0]) ?_ 0 _ rfl; (with_reducible repeat (first | refine blk_drewN ?_ _ | refine blk_drew ?_ | refine blk_alloc ?_ _)); refine blk_far ?_ NB205_204.out _; (with_reducible repeat (first | refine blk_drewN ?_ _ | refine blk_drew ?_ | refine blk_alloc ?_ _)); refine blk_far ?_ NB205_204.out _; (with_reducible repeat (first | refine blk_drewN ?_ _ | refine blk_drew ?_ | refine blk_alloc ?_ _)); refine blk_far ?_ NB205_204.out _; (with_reducible repeat (first | refine blk_drewN ?_ _ | refine blk_drew ?_ | refine blk_alloc ?_ _)); refine blk_far ?_ NB205_204.out _; (with_reducible repeat (first | refine blk_drewN ?_ _ | refine blk_drew ?_ | refine blk_alloc ?_ _)); exact BK205.out) hb); have n3_ := Aside0.mk (below_step (by repeat (first | (with_reducible first | exact HB.out | apply below_alloc | apply pw_below_drewN | apply below_drew1 | refine below_set ?_ (IsS46.ge HI193.out) | refine below_set ?_ GE204.out | refine below_set ?_ GE205.out) | exact HB.out)) hb); clear HI193; clear BK204; clear BK205; clear HB; have HI193 := n0_; have BK204 := n1_; have BK205 := n2_; have HB := n3_; clear n0_ n1_ n2_ n3_; (try clear hb); (try clear hb2); (try clear hk); (try clear hi); have hnb23 := NB205_193.out; have hnc23 := NB193_205.out; have hcz24_0 : w22.cell? ⟨gb205, 0, none⟩ = some (.int .i64 t199) := (blk_cell BK205.out 0).trans rfl; have hcz24_1 : w22.cell? ⟨gb205, 1, none⟩ = some (.int .i64 t200) := (blk_cell BK205.out 1).trans rfl; have hcz24_2 : w22.cell? ⟨gb205, 2, none⟩ = some (.int .i64 t201) := (blk_cell BK205.out 2).trans rfl; have hcz24_3 : w22.cell? ⟨gb205, 3, none⟩ = some (.int .i64 t202) := (blk_cell BK205.out 3).trans rfl; have hfz24_0 := blk_frozen BK205.out 0; have hfz24_1 := blk_frozen BK205.out 1; have hfz24_2 := blk_frozen BK205.out 2; have hfz24_3 := blk_frozen BK205.out 3) | (go_at_call 9; (with_reducible refine (tilefarmref2_Valid.calls t199 t200 t201 t202 t207 _ A18.out).mono ?_); rintro e w25 ⟨rfl, hb⟩; have n0_ := Aside0.mk (IsS46.below (by repeat (first | (with_reducible first | exact HI193.out | apply IsS46.alloc | apply IsS46.drewN | apply IsS46.drew | apply IsS46.set_1 | refine IsS46.far ?_ NB193_204.out _ | refine IsS46.far ?_ NB193_205.out _) | exact HI193.out)) hb); have n1_ := Aside0.mk (blk_below (g := gb204) (o := .cells #[.int .i64 t194, .int .i64 t195, .int .i64 t196, .int .i64 t197] 26 (0, 0)) (by (with_reducible repeat (first | refine blk_drewN ?_ _ | refine blk_drew ?_ | refine blk_alloc ?_ _)); exact BK204.out) hb); have n2_ := Aside0.mk (blk_below (g := gb205) (o := .cells #[.int .i64 t199, .int .i64 t200, .int .i64 t201, .int .i64 t202] 26 (0, 0)) (by (with_reducible repeat (first | refine blk_drewN ?_ _ | refine blk_drew ?_ | refine blk_alloc ?_ _)); exact BK205.out) hb); have n3_ := Aside0.mk (below_step (by repeat (first | (with_reducible first | exact HB.out | apply below_alloc | apply pw_below_drewN | apply below_drew1 | refine below_set ?_ (IsS46.ge HI193.out) | refine below_set ?_ GE204.out | refine below_set ?_ GE205.out) | exact HB.out)) hb); clear HI193; clear BK204; clear BK205; clear HB; have HI193 := n0_; have BK204 := n1_; have BK205 := n2_; have HB := n3_; clear n0_ n1_ n2_ n3_; (try clear hb); (try clear hb2); (try clear hk); (try clear hi)))
      go_meet
      case rel => exact ⟨_, (!t207), (by first | rfl | (simp; done) | (simp [*]; done)), H', ⟨by first | omega | exact Nat.le_refl _⟩, ⟨by (with_reducible repeat (first | refine blk_drewN ?_ _ | refine blk_drew ?_ | refine blk_alloc ?_ _)); exact BK204.out⟩, ⟨by (with_reducible repeat (first | refine blk_drewN ?_ _ | refine blk_drew ?_ | refine blk_alloc ?_ _)); exact BK205.out⟩, ⟨by repeat (first | (with_reducible first | exact HB.out | apply below_alloc | apply pw_below_drewN | apply below_drew1 | refine below_set ?_ (IsS46.ge HI193.out) | refine below_set ?_ GE204.out | refine below_set ?_ GE205.out) | exact HB.out)⟩⟩
    · replace c17 := Bool.eq_false_iff.mpr c17
      subst c17
      have H1 : (tilefarmlaw2_RectAreas.j0 k true t194 t195 t196 t197 t199 t200 t201 t202) = some r := by rw [if_neg (show ¬ (false = true) by decide)] at H; exact H
      clear H
      have H := H1
      clear H1
      have H' := Aside0.mk H
      clear H
      have hnb26 := NB204_205.out
      have hnc26 := NB205_204.out
      have hnb27 := NB204_193.out
      have hnc27 := NB193_204.out
      have hcz28_0 : w10.cell? ⟨gb204, 0, none⟩ = some (.int .i64 0) := (blk_cell BK204.out 0).trans rfl
      have hcz28_1 : w10.cell? ⟨gb204, 1, none⟩ = some (.int .i64 0) := (blk_cell BK204.out 1).trans rfl
      have hcz28_2 : w10.cell? ⟨gb204, 2, none⟩ = some (.int .i64 0) := (blk_cell BK204.out 2).trans rfl
      have hcz28_3 : w10.cell? ⟨gb204, 3, none⟩ = some (.int .i64 0) := (blk_cell BK204.out 3).trans rfl
      have hfz28_0 := blk_frozen BK204.out 0
      have hfz28_1 := blk_frozen BK204.out 1
      have hfz28_2 := blk_frozen BK204.out 2
      have hfz28_3 := blk_frozen BK204.out 3
      go_wp2_with (first | ((with_reducible refine gate_callee (f := 9) rfl ?_); refine goesL_ (some 16) rfl rfl Try.func9 (by kernel_rfl) rfl #[.agg #[.int .i64 t194, .int .i64 t195, .int .i64 t196, .int .i64 t197]] rfl (by (try simp only [List.map_toArray, List.map_cons, List.map_nil]); first | done | rfl | (simp only [List.length_drop, List.length_take]; rfl)) ?_; (with_reducible refine (tilefarmref2_Valid.calls t194 t195 t196 t197 false _ A16.out).mono ?_); rintro e w29 ⟨rfl, hb⟩; refine ⟨_, rfl, ?_⟩; have n0_ := Aside0.mk (IsS46.below (show IsS46 w ((((((((w10.setCell ⟨gb204, 0, none⟩ (.int .i64 t194)).setCell ⟨gb204, 1, none⟩ (.int .i64 t195)).setCell ⟨gb204, 2, none⟩ (.int .i64 t196)).setCell ⟨gb204, 3, none⟩ (.int .i64 t197)).setCell ⟨gb205, 0, none⟩ (.int .i64 t199)).setCell ⟨gb205, 1, none⟩ (.int .i64 t200)).setCell ⟨gb205, 2, none⟩ (.int .i64 t201)).setCell ⟨gb205, 3, none⟩ (.int .i64 t202)) g193 t191 t203 from by repeat (first | (with_reducible first | exact HI193.out | apply IsS46.alloc | apply IsS46.drewN | apply IsS46.drew | apply IsS46.set_1 | refine IsS46.far ?_ NB193_204.out _ | refine IsS46.far ?_ NB193_205.out _) | exact HI193.out)) hb); have n1_ := Aside0.mk (blk_below (g := gb204) (o := .cells #[.int .i64 t194, .int .i64 t195, .int .i64 t196, .int .i64 t197] 26 (0, 0)) (by (with_reducible repeat (first | refine blk_drewN ?_ _ | refine blk_drew ?_ | refine blk_alloc ?_ _)); refine blk_far ?_ NB204_205.out _; (with_reducible repeat (first | refine blk_drewN ?_ _ | refine blk_drew ?_ | refine blk_alloc ?_ _)); refine blk_far ?_ NB204_205.out _; (with_reducible repeat (first | refine blk_drewN ?_ _ | refine blk_drew ?_ | refine blk_alloc ?_ _)); refine blk_far ?_ NB204_205.out _; (with_reducible repeat (first | refine blk_drewN ?_ _ | refine blk_drew ?_ | refine blk_alloc ?_ _)); refine blk_far ?_ NB204_205.out _; (with_reducible repeat (first | refine blk_drewN ?_ _ | refine blk_drew ?_ | refine blk_alloc ?_ _)); refine blk_put (cs := #[.int .i64 t194, .int .i64 t195, .int .i64 t196, .int .i64 0]) ?_ 3 _ rfl; (with_reducible repeat (first | refine blk_drewN ?_ _ | refine blk_drew ?_ | refine blk_alloc ?_ _)); refine blk_put (cs := #[.int .i64 t194, .int .i64 t195, .int .i64 0, .int .i64 0]) ?_ 2 _ rfl; (with_reducible repeat (first | refine blk_drewN ?_ _ | refine blk_drew ?_ | refine blk_alloc ?_ _)); refine blk_put (cs := #[.int .i64 t194, .int .i64 0, .int .i64 0, .int .i64 0]) ?_ 1 _ rfl; (with_reducible repeat (first | refine blk_drewN ?_ _ | refine blk_drew ?_ | refine blk_alloc ?_ _)); refine blk_put (cs := #[.int .i64 0, .int .i64 0, .int .i64 0, .int .i64 0]) ?_ 0 _ rfl; (with_reducible repeat (first | refine blk_drewN ?_ _ | refine blk_drew ?_ | refine blk_alloc ?_ _)); exact BK204.out) hb); have n2_ := Aside0.mk (blk_below (g := gb205) (o := .cells #[.int .i64 t199, .int .i64 t200, .int .i64 t201, .int .i64 t202] 26 (0, 0)) (by (with_reducible repeat (first | refine blk_drewN ?_ _ | refine blk_drew ?_ | refine blk_alloc ?_ _)); refine blk_put (cs := #[.int .i64 t199, .int .i64 t200, .int .i64 t201, .int .i64 0]) ?_ 3 _ rfl; (with_reducible repeat (first | refine blk_drewN ?_ _ | refine blk_drew ?_ | refine blk_alloc ?_ _)); refine blk_put (cs := #[.int .i64 t199, .int .i64 t200, .int .i64 0, .int .i64 0]) ?_ 2 _ rfl; (with_reducible repeat (first | refine blk_drewN ?_ _ | refine blk_drew ?_ | refine blk_alloc ?_ _)); refine blk_put (cs := #[.int .i64 t199, .int .i64 0, .int .i64 0, .int .i64 0]) ?_ 1 _ rfl; (with_reducible repeat (first | refine blk_drewN ?_ _ | refine blk_drew ?_ | refine blk_alloc ?_ _)); refine blk_put (cs := #[.int .i64 0, .int .i64 0, .int .i64 0, .int .i64 0]) ?_ 0 _ rfl; (with_reducible repeat (first | refine blk_drewN ?_ _ | refine blk_drew ?_ | refine blk_alloc ?_ _)); refine blk_far ?_ NB205_204.out _; (with_reducible repeat (first | refine blk_drewN ?_ _ | refine blk_drew ?_ | refine blk_alloc ?_ _)); refine blk_far ?_ NB205_204.out _; (with_reducible repeat (first | refine blk_drewN ?_ _ | refine blk_drew ?_ | refine blk_alloc ?_ _)); refine blk_far ?_ NB205_204.out _; (with_reducible repeat (first | refine blk_drewN ?_ _ | refine blk_drew ?_ | refine blk_alloc ?_ _)); refine blk_far ?_ NB205_204.out _; (with_reducible repeat (first | refine blk_drewN ?_ _ | refine blk_drew ?_ | refine blk_alloc ?_ _)); exact BK205.out) hb); have n3_ := Aside0.mk (below_step (by repeat (first | (with_reducible first | exact HB.out | apply below_alloc | apply pw_below_drewN | apply below_drew1 | refine below_set ?_ (IsS46.ge HI193.out) | refine below_set ?_ GE204.out | refine below_set ?_ GE205.out) | exact HB.out)) hb); clear HI193; clear BK204; clear BK205; clear HB; have HI193 := n0_; have BK204 := n1_; have BK205 := n2_; have HB := n3_; clear n0_ n1_ n2_ n3_; (try clear hb); (try clear hb2); (try clear hk); (try clear hi)))
      go_meet
      case rel => exact ⟨_, (true), (by first | rfl | (simp; done) | (simp [*]; done)), H', ⟨by first | omega | exact Nat.le_refl _⟩, ⟨by (with_reducible repeat (first | refine blk_drewN ?_ _ | refine blk_drew ?_ | refine blk_alloc ?_ _)); exact BK204.out⟩, ⟨by (with_reducible repeat (first | refine blk_drewN ?_ _ | refine blk_drew ?_ | refine blk_alloc ?_ _)); exact BK205.out⟩, ⟨by repeat (first | (with_reducible first | exact HB.out | apply below_alloc | apply pw_below_drewN | apply below_drew1 | refine below_set ?_ (IsS46.ge HI193.out) | refine below_set ?_ GE204.out | refine below_set ?_ GE205.out) | exact HB.out)⟩⟩
  case rest =>
    clear HC5
    try clear c1
    try clear c2
    try clear p2
    try clear c3
    try clear c7
    try clear c8
    try clear c9
    try clear c11
    try clear c12
    try clear c14
    try clear c17
    try clear c19
    try clear c20
    try clear c23
    try clear c26
    try clear c27
    try clear hcz13_0
    try clear hcz13_1
    try clear hcz13_2
    try clear hcz13_3
    try clear hcz15_0
    try clear hcz15_1
    try clear hcz15_2
    try clear hcz15_3
    try clear hcz21_0
    try clear hcz21_1
    try clear hcz21_2
    try clear hcz21_3
    try clear hcz24_0
    try clear hcz24_1
    try clear hcz24_2
    try clear hcz24_3
    try clear hcz28_0
    try clear hcz28_1
    try clear hcz28_2
    try clear hcz28_3
    try clear hfz13_0
    try clear hfz13_1
    try clear hfz13_2
    try clear hfz13_3
    try clear hfz15_0
    try clear hfz15_1
    try clear hfz15_2
    try clear hfz15_3
    try clear hfz21_0
    try clear hfz21_1
    try clear hfz21_2
    try clear hfz21_3
    try clear hfz24_0
    try clear hfz24_1
    try clear hfz24_2
    try clear hfz24_3
    try clear hfz28_0
    try clear hfz28_1
    try clear hfz28_2
    try clear hfz28_3
    obtain ⟨kq, x22_4, rfl, HA, HJ4, BK204, BK205, HB⟩ := hcut
    cases kq with
    | zero => exact absurd HA.out (by simp [tilefarmlaw2_RectAreas.j0])
    | succ kj4 =>
      have H := HA.out
      clear HA
      simp only [tilefarmlaw2_RectAreas.j0] at H
      by_cases c30 : x22_4 = true
      · subst c30
        have H1 : ((tilefarmlaw2_sane.f kj4).bind fun t208 => (some t208)) = some r := by rw [if_pos rfl] at H; exact H
        clear H
        have H := H1
        clear H1
        replace H := Option.bind_eq_some_iff.mp H
        obtain ⟨t208, A310, H⟩ := H
        replace H : (some t208) = some r := H
        have A31 := Aside0.mk A310
        clear A310
        obtain rfl := Option.some.inj H
        go_wp2_with (first | ((with_reducible refine gate_callee (f := 10) rfl ?_); refine goesL_ (some 23) rfl rfl Try.func10 (by kernel_rfl) rfl #[] rfl (by (try simp only [List.map_toArray, List.map_cons, List.map_nil]); first | done | rfl | (simp only [List.length_drop, List.length_take]; rfl)) ?_; (with_reducible refine (tilefarmlaw2_sane.calls kj4  t208 _ A31.out).mono ?_); rintro e w32 ⟨rfl, hb⟩; refine ⟨_, rfl, ?_⟩; have n0_ := Aside0.mk (blk_below (g := gb204) (o := .cells #[.int .i64 t194, .int .i64 t195, .int .i64 t196, .int .i64 t197] 26 (0, 0)) (by (with_reducible repeat (first | refine blk_drewN ?_ _ | refine blk_drew ?_ | refine blk_alloc ?_ _)); exact BK204.out) hb); have n1_ := Aside0.mk (blk_below (g := gb205) (o := .cells #[.int .i64 t199, .int .i64 t200, .int .i64 t201, .int .i64 t202] 26 (0, 0)) (by (with_reducible repeat (first | refine blk_drewN ?_ _ | refine blk_drew ?_ | refine blk_alloc ?_ _)); exact BK205.out) hb); have n2_ := Aside0.mk (below_step (by repeat (first | (with_reducible first | exact HB.out | apply below_alloc | apply pw_below_drewN | apply below_drew1 | refine below_set ?_ GE204.out | refine below_set ?_ GE205.out) | exact HB.out)) hb); clear BK204; clear BK205; clear HB; have BK204 := n0_; have BK205 := n1_; have HB := n2_; clear n0_ n1_ n2_; (try clear hb); (try clear hb2); (try clear hk); (try clear hi)))
        go_ret
        exact ⟨by first | rfl | (simp [errW_none, errW_some] <;> rfl) | (simp [*, errW_none, errW_some] <;> rfl), by repeat (first | (with_reducible first | exact HB.out | apply below_alloc | apply pw_below_drewN | apply below_drew1 | refine below_set ?_ GE204.out | refine below_set ?_ GE205.out) | exact HB.out)⟩
      · replace c30 := Bool.eq_false_iff.mpr c30
        subst c30
        have H1 : ((rect_Subtract.f kj4 t194 t195 t196 t197 t199 t200 t201 t202).bind fun t209 => ((rect_Intersect.f kj4 t194 t195 t196 t197 t199 t200 t201 t202).bind fun bt212 => ((rect_Area.f bt212.1 bt212.2.1 bt212.2.2.1 bt212.2.2.2).bind fun t216 => (tilefarmlaw2_RectAreas.l0 kj4 t209 t216 0 t194 t195 t196 t197 t199 t200 t201 t202)))) = some r := by rw [if_neg (show ¬ (false = true) by decide)] at H; exact H
        clear H
        have H := H1
        clear H1
        replace H := Option.bind_eq_some_iff.mp H
        obtain ⟨t209, A330, H⟩ := H
        replace H : ((rect_Intersect.f kj4 t194 t195 t196 t197 t199 t200 t201 t202).bind fun bt212 => ((rect_Area.f bt212.1 bt212.2.1 bt212.2.2.1 bt212.2.2.2).bind fun t216 => (tilefarmlaw2_RectAreas.l0 kj4 t209 t216 0 t194 t195 t196 t197 t199 t200 t201 t202))) = some r := H
        have A33 := Aside0.mk A330
        clear A330
        replace H := Option.bind_eq_some_iff.mp H
        obtain ⟨⟨t212, t213, t214, t215⟩, A340, H⟩ := H
        replace H : ((rect_Area.f t212 t213 t214 t215).bind fun t216 => (tilefarmlaw2_RectAreas.l0 kj4 t209 t216 0 t194 t195 t196 t197 t199 t200 t201 t202)) = some r := H
        have A34 := Aside0.mk A340
        clear A340
        replace H := Option.bind_eq_some_iff.mp H
        obtain ⟨t216, A350, H⟩ := H
        replace H : (tilefarmlaw2_RectAreas.l0 kj4 t209 t216 0 t194 t195 t196 t197 t199 t200 t201 t202) = some r := H
        have A35 := Aside0.mk A350
        clear A350
        have H' := Aside0.mk H
        clear H
        have hnb36 := NB204_205.out
        have hnc36 := NB205_204.out
        have hcz37_0 : wc.cell? ⟨gb204, 0, none⟩ = some (.int .i64 t194) := (blk_cell BK204.out 0).trans rfl
        have hcz37_1 : wc.cell? ⟨gb204, 1, none⟩ = some (.int .i64 t195) := (blk_cell BK204.out 1).trans rfl
        have hcz37_2 : wc.cell? ⟨gb204, 2, none⟩ = some (.int .i64 t196) := (blk_cell BK204.out 2).trans rfl
        have hcz37_3 : wc.cell? ⟨gb204, 3, none⟩ = some (.int .i64 t197) := (blk_cell BK204.out 3).trans rfl
        have hfz37_0 := blk_frozen BK204.out 0
        have hfz37_1 := blk_frozen BK204.out 1
        have hfz37_2 := blk_frozen BK204.out 2
        have hfz37_3 := blk_frozen BK204.out 3
        have hcz38_0 : wc.cell? ⟨gb205, 0, none⟩ = some (.int .i64 t199) := (blk_cell BK205.out 0).trans rfl
        have hcz38_1 : wc.cell? ⟨gb205, 1, none⟩ = some (.int .i64 t200) := (blk_cell BK205.out 1).trans rfl
        have hcz38_2 : wc.cell? ⟨gb205, 2, none⟩ = some (.int .i64 t201) := (blk_cell BK205.out 2).trans rfl
        have hcz38_3 : wc.cell? ⟨gb205, 3, none⟩ = some (.int .i64 t202) := (blk_cell BK205.out 3).trans rfl
        have hfz38_0 := blk_frozen BK205.out 0
        have hfz38_1 := blk_frozen BK205.out 1
        have hfz38_2 := blk_frozen BK205.out 2
        have hfz38_3 := blk_frozen BK205.out 3
        go_wp2_with (first | ((with_reducible refine gate_callee (f := 11) rfl ?_); refine goesL_ (some 26) rfl rfl Try.func11 (by kernel_rfl) rfl #[.agg #[.int .i64 t194, .int .i64 t195, .int .i64 t196, .int .i64 t197], .agg #[.int .i64 t199, .int .i64 t200, .int .i64 t201, .int .i64 t202]] rfl (by (try simp only [List.map_toArray, List.map_cons, List.map_nil]); first | done | rfl | (simp only [List.length_drop, List.length_take]; rfl)) ?_; (with_reducible refine (rect_Subtract.calls kj4 t194 t195 t196 t197 t199 t200 t201 t202 t209 _ A33.out).mono ?_); rintro e w39 ⟨v210, rfl, ho0, hb⟩; refine ⟨_, rfl, ?_⟩; have n0_ := Aside0.mk (Kd.R_lower (Kd.R_newB (Kd.R_newB ho0 (g := gb204) (o := .cells #[.int .i64 t194, .int .i64 t195, .int .i64 t196, .int .i64 t197] 26 (0, 0)) (by (with_reducible repeat (first | refine blk_drewN ?_ _ | refine blk_drew ?_ | refine blk_alloc ?_ _)); exact BK204.out)) (g := gb205) (o := .cells #[.int .i64 t199, .int .i64 t200, .int .i64 t201, .int .i64 t202] 26 (0, 0)) (by (with_reducible repeat (first | refine blk_drewN ?_ _ | refine blk_drew ?_ | refine blk_alloc ?_ _)); exact BK205.out)) (below_size (by repeat (first | (with_reducible first | exact HB.out | apply below_alloc | apply pw_below_drewN | apply below_drew1 | refine below_set ?_ GE204.out | refine below_set ?_ GE205.out) | exact HB.out)))); have n1_ := Aside0.mk (blk_below (g := gb204) (o := .cells #[.int .i64 t194, .int .i64 t195, .int .i64 t196, .int .i64 t197] 26 (0, 0)) (by (with_reducible repeat (first | refine blk_drewN ?_ _ | refine blk_drew ?_ | refine blk_alloc ?_ _)); exact BK204.out) hb); have n2_ := Aside0.mk (blk_below (g := gb205) (o := .cells #[.int .i64 t199, .int .i64 t200, .int .i64 t201, .int .i64 t202] 26 (0, 0)) (by (with_reducible repeat (first | refine blk_drewN ?_ _ | refine blk_drew ?_ | refine blk_alloc ?_ _)); exact BK205.out) hb); have n3_ := Aside0.mk (below_step (by repeat (first | (with_reducible first | exact HB.out | apply below_alloc | apply pw_below_drewN | apply below_drew1 | refine below_set ?_ GE204.out | refine below_set ?_ GE205.out) | exact HB.out)) hb); clear BK204; clear BK205; clear HB; have HO211 := n0_; have BK204 := n1_; have BK205 := n2_; have HB := n3_; clear n0_ n1_ n2_ n3_; (try clear hb); (try clear hb2); (try clear hk); (try clear hi); (try clear ho0); have hcz40_0 : w39.cell? ⟨gb204, 0, none⟩ = some (.int .i64 t194) := (blk_cell BK204.out 0).trans rfl; have hcz40_1 : w39.cell? ⟨gb204, 1, none⟩ = some (.int .i64 t195) := (blk_cell BK204.out 1).trans rfl; have hcz40_2 : w39.cell? ⟨gb204, 2, none⟩ = some (.int .i64 t196) := (blk_cell BK204.out 2).trans rfl; have hcz40_3 : w39.cell? ⟨gb204, 3, none⟩ = some (.int .i64 t197) := (blk_cell BK204.out 3).trans rfl; have hfz40_0 := blk_frozen BK204.out 0; have hfz40_1 := blk_frozen BK204.out 1; have hfz40_2 := blk_frozen BK204.out 2; have hfz40_3 := blk_frozen BK204.out 3; have hcz41_0 : w39.cell? ⟨gb205, 0, none⟩ = some (.int .i64 t199) := (blk_cell BK205.out 0).trans rfl; have hcz41_1 : w39.cell? ⟨gb205, 1, none⟩ = some (.int .i64 t200) := (blk_cell BK205.out 1).trans rfl; have hcz41_2 : w39.cell? ⟨gb205, 2, none⟩ = some (.int .i64 t201) := (blk_cell BK205.out 2).trans rfl; have hcz41_3 : w39.cell? ⟨gb205, 3, none⟩ = some (.int .i64 t202) := (blk_cell BK205.out 3).trans rfl; have hfz41_0 := blk_frozen BK205.out 0; have hfz41_1 := blk_frozen BK205.out 1; have hfz41_2 := blk_frozen BK205.out 2; have hfz41_3 := blk_frozen BK205.out 3) | ((with_reducible refine gate_callee (f := 13) rfl ?_); refine goesL_ (some 29) rfl rfl Try.func13 (by kernel_rfl) rfl #[.agg #[.int .i64 t194, .int .i64 t195, .int .i64 t196, .int .i64 t197], .agg #[.int .i64 t199, .int .i64 t200, .int .i64 t201, .int .i64 t202]] rfl (by (try simp only [List.map_toArray, List.map_cons, List.map_nil]); first | done | rfl | (simp only [List.length_drop, List.length_take]; rfl)) ?_; (with_reducible refine (rect_Intersect.calls kj4 t194 t195 t196 t197 t199 t200 t201 t202 t212 t213 t214 t215 _ A34.out).mono ?_); rintro e w42 ⟨rfl, hb⟩; refine ⟨_, rfl, ?_⟩; have n0_ := Aside0.mk (Kd.R_below (by (with_reducible repeat (first | apply Kd.R_alloc | apply Kd.R_drewN | apply Kd.R_drew)); exact HO211.out) hb); have n1_ := Aside0.mk (blk_below (g := gb204) (o := .cells #[.int .i64 t194, .int .i64 t195, .int .i64 t196, .int .i64 t197] 26 (0, 0)) (by (with_reducible repeat (first | refine blk_drewN ?_ _ | refine blk_drew ?_ | refine blk_alloc ?_ _)); exact BK204.out) hb); have n2_ := Aside0.mk (blk_below (g := gb205) (o := .cells #[.int .i64 t199, .int .i64 t200, .int .i64 t201, .int .i64 t202] 26 (0, 0)) (by (with_reducible repeat (first | refine blk_drewN ?_ _ | refine blk_drew ?_ | refine blk_alloc ?_ _)); exact BK205.out) hb); have n3_ := Aside0.mk (below_step (by repeat (first | (with_reducible first | exact HB.out | apply below_alloc | apply pw_below_drewN | apply below_drew1 | refine below_set ?_ GE204.out | refine below_set ?_ GE205.out) | exact HB.out)) hb); clear HO211; clear BK204; clear BK205; clear HB; have HO211 := n0_; have BK204 := n1_; have BK205 := n2_; have HB := n3_; clear n0_ n1_ n2_ n3_; (try clear hb); (try clear hb2); (try clear hk); (try clear hi)) | ((with_reducible refine gate_callee (f := 12) rfl ?_); refine goesL_ (some 30) rfl rfl Try.func12 (by kernel_rfl) rfl #[.agg #[.int .i64 t212, .int .i64 t213, .int .i64 t214, .int .i64 t215]] rfl (by (try simp only [List.map_toArray, List.map_cons, List.map_nil]); first | done | rfl | (simp only [List.length_drop, List.length_take]; rfl)) ?_; (with_reducible refine (rect_Area.calls t212 t213 t214 t215 t216 _ A35.out).mono ?_); rintro e w43 ⟨rfl, hb⟩; refine ⟨_, rfl, ?_⟩; have n0_ := Aside0.mk (Kd.R_below (by (with_reducible repeat (first | apply Kd.R_alloc | apply Kd.R_drewN | apply Kd.R_drew)); exact HO211.out) hb); have n1_ := Aside0.mk (blk_below (g := gb204) (o := .cells #[.int .i64 t194, .int .i64 t195, .int .i64 t196, .int .i64 t197] 26 (0, 0)) (by (with_reducible repeat (first | refine blk_drewN ?_ _ | refine blk_drew ?_ | refine blk_alloc ?_ _)); exact BK204.out) hb); have n2_ := Aside0.mk (blk_below (g := gb205) (o := .cells #[.int .i64 t199, .int .i64 t200, .int .i64 t201, .int .i64 t202] 26 (0, 0)) (by (with_reducible repeat (first | refine blk_drewN ?_ _ | refine blk_drew ?_ | refine blk_alloc ?_ _)); exact BK205.out) hb); have n3_ := Aside0.mk (below_step (by repeat (first | (with_reducible first | exact HB.out | apply below_alloc | apply pw_below_drewN | apply below_drew1 | refine below_set ?_ GE204.out | refine below_set ?_ GE205.out) | exact HB.out)) hb); clear HO211; clear BK204; clear BK205; clear HB; have HO211 := n0_; have BK204 := n1_; have BK205 := n2_; have HB := n3_; clear n0_ n1_ n2_ n3_; (try clear hb); (try clear hb2); (try clear hk); (try clear hi)))
        go_loopg [7, 8] kj4 (fun kq v7 v8 w' => ∃ (x7_2 : Int) (x8_2 : Int), v7 = .int .i64 x7_2 ∧ v8 = .int .i64 x8_2 ∧ Aside0 (tilefarmlaw2_RectAreas.l0 kq t209 x7_2 x8_2 t194 t195 t196 t197 t199 t200 t201 t202 = some r) ∧ Aside0 (kq ≤ kj4) ∧ Aside0 (Kd.R k26 26 w' w.heap.size (fun k_ => k_ ≠ gb204 ∧ k_ ≠ gb205) v210 t209) ∧ Aside0 (w'.heap[gb204]? = some (.cells #[.int .i64 t194, .int .i64 t195, .int .i64 t196, .int .i64 t197] 26 (0, 0))) ∧ Aside0 (w'.heap[gb205]? = some (.cells #[.int .i64 t199, .int .i64 t200, .int .i64 t201, .int .i64 t202] 26 (0, 0))) ∧ Aside0 (Below w.heap.size w w'))
        case atStart => exact ⟨(t216), (0), (by first | rfl | (simp; done) | (simp [*]; done)), (by first | rfl | (simp; done) | (simp [*]; done)), H', ⟨Nat.le_refl _⟩, ⟨by (with_reducible repeat (first | apply Kd.R_alloc | apply Kd.R_drewN | apply Kd.R_drew)); exact Kd.R_mono HO211.out (fun _ hk => ⟨hk.1.2, hk.2⟩)⟩, ⟨by (with_reducible repeat (first | refine blk_drewN ?_ _ | refine blk_drew ?_ | refine blk_alloc ?_ _)); exact BK204.out⟩, ⟨by (with_reducible repeat (first | refine blk_drewN ?_ _ | refine blk_drew ?_ | refine blk_alloc ?_ _)); exact BK205.out⟩, ⟨by repeat (first | (with_reducible first | exact HB.out | apply below_alloc | apply pw_below_drewN | apply below_drew1 | refine below_set ?_ GE204.out | refine below_set ?_ GE205.out) | exact HB.out)⟩⟩
        case round =>
          clear H'
          try clear c1
          try clear c2
          try clear p2
          try clear c3
          try clear c7
          try clear c8
          try clear c9
          try clear c10
          try clear c11
          try clear c12
          try clear c13
          try clear c14
          try clear c17
          try clear c19
          try clear c20
          try clear c23
          try clear c26
          try clear c27
          try clear c30
          try clear c36
          try clear hcz13_0
          try clear hcz13_1
          try clear hcz13_2
          try clear hcz13_3
          try clear hcz15_0
          try clear hcz15_1
          try clear hcz15_2
          try clear hcz15_3
          try clear hcz21_0
          try clear hcz21_1
          try clear hcz21_2
          try clear hcz21_3
          try clear hcz24_0
          try clear hcz24_1
          try clear hcz24_2
          try clear hcz24_3
          try clear hcz28_0
          try clear hcz28_1
          try clear hcz28_2
          try clear hcz28_3
          try clear hcz37_0
          try clear hcz37_1
          try clear hcz37_2
          try clear hcz37_3
          try clear hcz38_0
          try clear hcz38_1
          try clear hcz38_2
          try clear hcz38_3
          try clear hcz40_0
          try clear hcz40_1
          try clear hcz40_2
          try clear hcz40_3
          try clear hcz41_0
          try clear hcz41_1
          try clear hcz41_2
          try clear hcz41_3
          try clear hfz13_0
          try clear hfz13_1
          try clear hfz13_2
          try clear hfz13_3
          try clear hfz15_0
          try clear hfz15_1
          try clear hfz15_2
          try clear hfz15_3
          try clear hfz21_0
          try clear hfz21_1
          try clear hfz21_2
          try clear hfz21_3
          try clear hfz24_0
          try clear hfz24_1
          try clear hfz24_2
          try clear hfz24_3
          try clear hfz28_0
          try clear hfz28_1
          try clear hfz28_2
          try clear hfz28_3
          try clear hfz37_0
          try clear hfz37_1
          try clear hfz37_2
          try clear hfz37_3
          try clear hfz38_0
          try clear hfz38_1
          try clear hfz38_2
          try clear hfz38_3
          try clear hfz40_0
          try clear hfz40_1
          try clear hfz40_2
          try clear hfz40_3
          try clear hfz41_0
          try clear hfz41_1
          try clear hfz41_2
          try clear hfz41_3
          try clear p2
          obtain ⟨x7_2, x8_2, rfl, rfl, HA, HK2, HO_6, BK204, BK205, HB⟩ := hrel
          cases gk with
          | zero => exact absurd HA.out (by simp [tilefarmlaw2_RectAreas.l0])
          | succ k2 =>
            have H := HA.out
            clear HA
            simp only [tilefarmlaw2_RectAreas.l0] at H
            by_cases c44 : x8_2 < (t209.length : Int)
            · rw [if_pos c44] at H
              have c44b0 : decide (x8_2 < (t209.length : Int)) = true := decide_eq_true c44
              clear c44
              by_cases c45 : 0 ≤ x8_2
              · rw [if_pos c45] at H
                have c45b0 : decide (0 ≤ x8_2) = true := decide_eq_true c45
                clear c45
                replace H := Option.bind_eq_some_iff.mp H
                obtain ⟨t218, A460, H⟩ := H
                replace H : (tilefarmlaw2_RectAreas.l0 k2 t209 (wrap64 (x7_2 + t218)) (wrap64 (x8_2 + 1)) t194 t195 t196 t197 t199 t200 t201 t202) = some r := H
                have A46 := Aside0.mk A460
                clear A460
                have H' := Aside0.mk H
                clear H
                obtain ⟨Ao47, co47, eo47⟩ := Kd.R_slice HO_6.out
                subst eo47
                have p217 : 0 ≤ (x8_2 : Int) := of_decide_eq_true (by first | (with_reducible assumption) | assumption)
                have q217 : x8_2 < (t209.length : Int) := of_decide_eq_true (by first | (with_reducible assumption) | assumption)
                obtain ⟨ad217, e217, hx217_0, hx217_1, hx217_2, hx217_3⟩ := at_T26 (Kd.R_reads' HO_6.out).2.2 x8_2 p217 q217
                cases e217
                replace p217 := eq_true p217
                replace q217 := eq_true q217
                go_wp2_with (first | ((with_reducible refine gate_callee (f := 12) rfl ?_); refine goesL_ (some 42) rfl rfl Try.func12 (by kernel_rfl) rfl #[.agg #[.int .i64 ((rd_T26 t209 x8_2).f0), .int .i64 ((rd_T26 t209 x8_2).f1), .int .i64 ((rd_T26 t209 x8_2).f2), .int .i64 ((rd_T26 t209 x8_2).f3)]] rfl (by (try simp only [List.map_toArray, List.map_cons, List.map_nil]); first | done | rfl | (simp only [List.length_drop, List.length_take]; rfl)) ?_; (with_reducible refine (rect_Area.calls ((rd_T26 t209 x8_2).f0) ((rd_T26 t209 x8_2).f1) ((rd_T26 t209 x8_2).f2) ((rd_T26 t209 x8_2).f3) t218 _ A46.out).mono ?_); rintro e w48 ⟨rfl, hb⟩; refine ⟨_, rfl, ?_⟩; have n0_ := Aside0.mk (Kd.R_below (by (with_reducible repeat (first | apply Kd.R_alloc | apply Kd.R_drewN | apply Kd.R_drew)); exact HO_6.out) hb); have n1_ := Aside0.mk (blk_below (g := gb204) (o := .cells #[.int .i64 t194, .int .i64 t195, .int .i64 t196, .int .i64 t197] 26 (0, 0)) (by (with_reducible repeat (first | refine blk_drewN ?_ _ | refine blk_drew ?_ | refine blk_alloc ?_ _)); exact BK204.out) hb); have n2_ := Aside0.mk (blk_below (g := gb205) (o := .cells #[.int .i64 t199, .int .i64 t200, .int .i64 t201, .int .i64 t202] 26 (0, 0)) (by (with_reducible repeat (first | refine blk_drewN ?_ _ | refine blk_drew ?_ | refine blk_alloc ?_ _)); exact BK205.out) hb); have n3_ := Aside0.mk (below_step (by repeat (first | (with_reducible first | exact HB.out | apply below_alloc | apply pw_below_drewN | apply below_drew1 | refine below_set ?_ GE204.out | refine below_set ?_ GE205.out) | exact HB.out)) hb); clear HO_6; clear BK204; clear BK205; clear HB; have HO_6 := n0_; have BK204 := n1_; have BK205 := n2_; have HB := n3_; clear n0_ n1_ n2_ n3_; (try clear hb); (try clear hb2); (try clear hk); (try clear hi)))
                go_roundg k2
                case measure => have := HJ4.out; have := HK2.out; omega
                case rel => exact ⟨(wrap64 (x7_2 + t218)), (wrap64 (x8_2 + 1)), (by first | rfl | (simp; done) | (simp [*]; done)), (by first | rfl | (simp; done) | (simp [*]; done)), H', ⟨by have := HJ4.out; have := HK2.out; omega⟩, ⟨by (with_reducible repeat (first | apply Kd.R_alloc | apply Kd.R_drewN | apply Kd.R_drew)); exact HO_6.out⟩, ⟨by (with_reducible repeat (first | refine blk_drewN ?_ _ | refine blk_drew ?_ | refine blk_alloc ?_ _)); exact BK204.out⟩, ⟨by (with_reducible repeat (first | refine blk_drewN ?_ _ | refine blk_drew ?_ | refine blk_alloc ?_ _)); exact BK205.out⟩, ⟨by repeat (first | (with_reducible first | exact HB.out | apply below_alloc | apply pw_below_drewN | apply below_drew1 | refine below_set ?_ GE204.out | refine below_set ?_ GE205.out) | exact HB.out)⟩⟩
              · rw [if_neg c45] at H
                exact absurd H (by simp)
            · rw [if_neg c44] at H
              have c44b0 : decide (x8_2 < (t209.length : Int)) = false := decide_eq_false c44
              clear c44
              replace H := Option.bind_eq_some_iff.mp H
              obtain ⟨t219, A490, H⟩ := H
              replace H : (if x7_2 = t219 then ((rect_Inside.f k2 t194 t195 t196 t197 t199 t200 t201 t202).bind fun t220 => (if (t220 == ((t209.length : Int) == 0)) = true then ((tilefarmlaw2_sane.f k2).bind fun t221 => (some t221)) else (some false))) else (some false)) = some r := H
              have A49 := Aside0.mk A490
              clear A490
              by_cases c50 : x7_2 = t219
              · rw [if_pos c50] at H
                have c50b0 : (x7_2 == t219) = true := beq_iff_eq.mpr c50
                have c50b1 : (x7_2 != t219) = false := bne_eq_false_iff_eq.mpr c50
                clear c50
                replace H := Option.bind_eq_some_iff.mp H
                obtain ⟨t220, A510, H⟩ := H
                replace H : (if (t220 == ((t209.length : Int) == 0)) = true then ((tilefarmlaw2_sane.f k2).bind fun t221 => (some t221)) else (some false)) = some r := H
                have A51 := Aside0.mk A510
                clear A510
                by_cases c52 : (t220 == ((t209.length : Int) == 0)) = true
                · rw [if_pos c52] at H
                  have c52b0 : (t220 == ((t209.length : Int) == 0)) = true := c52
                  (try (have c52b1 : decide (t220 = ((t209.length : Int) == 0)) = true := by simpa using c52))
                  (try (have c52b2 : (t220 == ((t209.length : Int) == 0)) = true := by simpa using c52))
                  clear c52
                  replace H := Option.bind_eq_some_iff.mp H
                  obtain ⟨t221, A530, H⟩ := H
                  replace H : (some t221) = some r := H
                  have A53 := Aside0.mk A530
                  clear A530
                  obtain rfl := Option.some.inj H
                  obtain ⟨Ao54, co54, eo54⟩ := Kd.R_slice HO_6.out
                  subst eo54
                  have hnb55 := NB204_205.out
                  have hnc55 := NB205_204.out
                  have hcz56_0 : wr.cell? ⟨gb204, 0, none⟩ = some (.int .i64 t194) := (blk_cell BK204.out 0).trans rfl
                  have hcz56_1 : wr.cell? ⟨gb204, 1, none⟩ = some (.int .i64 t195) := (blk_cell BK204.out 1).trans rfl
                  have hcz56_2 : wr.cell? ⟨gb204, 2, none⟩ = some (.int .i64 t196) := (blk_cell BK204.out 2).trans rfl
                  have hcz56_3 : wr.cell? ⟨gb204, 3, none⟩ = some (.int .i64 t197) := (blk_cell BK204.out 3).trans rfl
                  have hfz56_0 := blk_frozen BK204.out 0
                  have hfz56_1 := blk_frozen BK204.out 1
                  have hfz56_2 := blk_frozen BK204.out 2
                  have hfz56_3 := blk_frozen BK204.out 3
                  go_wp2_with (first | ((with_reducible refine gate_callee (f := 12) rfl ?_); refine goesL_ (some 46) rfl rfl Try.func12 (by kernel_rfl) rfl #[.agg #[.int .i64 t194, .int .i64 t195, .int .i64 t196, .int .i64 t197]] rfl (by (try simp only [List.map_toArray, List.map_cons, List.map_nil]); first | done | rfl | (simp only [List.length_drop, List.length_take]; rfl)) ?_; (with_reducible refine (rect_Area.calls t194 t195 t196 t197 t219 _ A49.out).mono ?_); rintro e w57 ⟨rfl, hb⟩; refine ⟨_, rfl, ?_⟩; have n0_ := Aside0.mk (Kd.R_below (by (with_reducible repeat (first | apply Kd.R_alloc | apply Kd.R_drewN | apply Kd.R_drew)); exact HO_6.out) hb); have n1_ := Aside0.mk (blk_below (g := gb204) (o := .cells #[.int .i64 t194, .int .i64 t195, .int .i64 t196, .int .i64 t197] 26 (0, 0)) (by (with_reducible repeat (first | refine blk_drewN ?_ _ | refine blk_drew ?_ | refine blk_alloc ?_ _)); exact BK204.out) hb); have n2_ := Aside0.mk (blk_below (g := gb205) (o := .cells #[.int .i64 t199, .int .i64 t200, .int .i64 t201, .int .i64 t202] 26 (0, 0)) (by (with_reducible repeat (first | refine blk_drewN ?_ _ | refine blk_drew ?_ | refine blk_alloc ?_ _)); exact BK205.out) hb); have n3_ := Aside0.mk (below_step (by repeat (first | (with_reducible first | exact HB.out | apply below_alloc | apply pw_below_drewN | apply below_drew1 | refine below_set ?_ GE204.out | refine below_set ?_ GE205.out) | exact HB.out)) hb); clear HO_6; clear BK204; clear BK205; clear HB; have HO_6 := n0_; have BK204 := n1_; have BK205 := n2_; have HB := n3_; clear n0_ n1_ n2_ n3_; (try clear hb); (try clear hb2); (try clear hk); (try clear hi); have hcz58_0 : w57.cell? ⟨gb204, 0, none⟩ = some (.int .i64 t194) := (blk_cell BK204.out 0).trans rfl; have hcz58_1 : w57.cell? ⟨gb204, 1, none⟩ = some (.int .i64 t195) := (blk_cell BK204.out 1).trans rfl; have hcz58_2 : w57.cell? ⟨gb204, 2, none⟩ = some (.int .i64 t196) := (blk_cell BK204.out 2).trans rfl; have hcz58_3 : w57.cell? ⟨gb204, 3, none⟩ = some (.int .i64 t197) := (blk_cell BK204.out 3).trans rfl; have hfz58_0 := blk_frozen BK204.out 0; have hfz58_1 := blk_frozen BK204.out 1; have hfz58_2 := blk_frozen BK204.out 2; have hfz58_3 := blk_frozen BK204.out 3; have hcz59_0 : w57.cell? ⟨gb205, 0, none⟩ = some (.int .i64 t199) := (blk_cell BK205.out 0).trans rfl; have hcz59_1 : w57.cell? ⟨gb205, 1, none⟩ = some (.int .i64 t200) := (blk_cell BK205.out 1).trans rfl; have hcz59_2 : w57.cell? ⟨gb205, 2, none⟩ = some (.int .i64 t201) := (blk_cell BK205.out 2).trans rfl; have hcz59_3 : w57.cell? ⟨gb205, 3, none⟩ = some (.int .i64 t202) := (blk_cell BK205.out 3).trans rfl; have hfz59_0 := blk_frozen BK205.out 0; have hfz59_1 := blk_frozen BK205.out 1; have hfz59_2 := blk_frozen BK205.out 2; have hfz59_3 := blk_frozen BK205.out 3) | (go_at_call 14; (with_reducible refine (rect_Inside.calls k2 t194 t195 t196 t197 t199 t200 t201 t202 t220 _ A51.out).mono ?_); rintro e w60 ⟨rfl, hb⟩; have n0_ := Aside0.mk (Kd.R_below (by (with_reducible repeat (first | apply Kd.R_alloc | apply Kd.R_drewN | apply Kd.R_drew)); exact HO_6.out) hb); have n1_ := Aside0.mk (blk_below (g := gb204) (o := .cells #[.int .i64 t194, .int .i64 t195, .int .i64 t196, .int .i64 t197] 26 (0, 0)) (by (with_reducible repeat (first | refine blk_drewN ?_ _ | refine blk_drew ?_ | refine blk_alloc ?_ _)); exact BK204.out) hb); have n2_ := Aside0.mk (blk_below (g := gb205) (o := .cells #[.int .i64 t199, .int .i64 t200, .int .i64 t201, .int .i64 t202] 26 (0, 0)) (by (with_reducible repeat (first | refine blk_drewN ?_ _ | refine blk_drew ?_ | refine blk_alloc ?_ _)); exact BK205.out) hb); have n3_ := Aside0.mk (below_step (by repeat (first | (with_reducible first | exact HB.out | apply below_alloc | apply pw_below_drewN | apply below_drew1 | refine below_set ?_ GE204.out | refine below_set ?_ GE205.out) | exact HB.out)) hb); clear HO_6; clear BK204; clear BK205; clear HB; have HO_6 := n0_; have BK204 := n1_; have BK205 := n2_; have HB := n3_; clear n0_ n1_ n2_ n3_; (try clear hb); (try clear hb2); (try clear hk); (try clear hi)) | (go_at_call 10; (with_reducible refine (tilefarmlaw2_sane.calls k2  t221 _ A53.out).mono ?_); rintro e w61 ⟨rfl, hb⟩; have n0_ := Aside0.mk (Kd.R_below (by (with_reducible repeat (first | apply Kd.R_alloc | apply Kd.R_drewN | apply Kd.R_drew)); exact HO_6.out) hb); have n1_ := Aside0.mk (blk_below (g := gb204) (o := .cells #[.int .i64 t194, .int .i64 t195, .int .i64 t196, .int .i64 t197] 26 (0, 0)) (by (with_reducible repeat (first | refine blk_drewN ?_ _ | refine blk_drew ?_ | refine blk_alloc ?_ _)); exact BK204.out) hb); have n2_ := Aside0.mk (blk_below (g := gb205) (o := .cells #[.int .i64 t199, .int .i64 t200, .int .i64 t201, .int .i64 t202] 26 (0, 0)) (by (with_reducible repeat (first | refine blk_drewN ?_ _ | refine blk_drew ?_ | refine blk_alloc ?_ _)); exact BK205.out) hb); have n3_ := Aside0.mk (below_step (by repeat (first | (with_reducible first | exact HB.out | apply below_alloc | apply pw_below_drewN | apply below_drew1 | refine below_set ?_ GE204.out | refine below_set ?_ GE205.out) | exact HB.out)) hb); clear HO_6; clear BK204; clear BK205; clear HB; have HO_6 := n0_; have BK204 := n1_; have BK205 := n2_; have HB := n3_; clear n0_ n1_ n2_ n3_; (try clear hb); (try clear hb2); (try clear hk); (try clear hi)))
                  go_ret
                  exact ⟨by first | rfl | (simp [errW_none, errW_some] <;> rfl) | (simp [*, errW_none, errW_some] <;> rfl), by repeat (first | (with_reducible first | exact HB.out | apply below_alloc | apply pw_below_drewN | apply below_drew1 | refine below_set ?_ GE204.out | refine below_set ?_ GE205.out) | exact HB.out)⟩
                · rw [if_neg c52] at H
                  have c52b0 : (t220 == ((t209.length : Int) == 0)) = false := by simpa using c52
                  (try (have c52b1 : decide (t220 = ((t209.length : Int) == 0)) = false := by simpa using c52))
                  (try (have c52b2 : (t220 == ((t209.length : Int) == 0)) = false := by simpa using c52))
                  (try (have c52b3 : ¬ (t220 = ((t209.length : Int) == 0)) := by simpa using c52))
                  clear c52
                  obtain rfl := Option.some.inj H
                  obtain ⟨Ao62, co62, eo62⟩ := Kd.R_slice HO_6.out
                  subst eo62
                  have hnb63 := NB204_205.out
                  have hnc63 := NB205_204.out
                  have hcz64_0 : wr.cell? ⟨gb204, 0, none⟩ = some (.int .i64 t194) := (blk_cell BK204.out 0).trans rfl
                  have hcz64_1 : wr.cell? ⟨gb204, 1, none⟩ = some (.int .i64 t195) := (blk_cell BK204.out 1).trans rfl
                  have hcz64_2 : wr.cell? ⟨gb204, 2, none⟩ = some (.int .i64 t196) := (blk_cell BK204.out 2).trans rfl
                  have hcz64_3 : wr.cell? ⟨gb204, 3, none⟩ = some (.int .i64 t197) := (blk_cell BK204.out 3).trans rfl
                  have hfz64_0 := blk_frozen BK204.out 0
                  have hfz64_1 := blk_frozen BK204.out 1
                  have hfz64_2 := blk_frozen BK204.out 2
                  have hfz64_3 := blk_frozen BK204.out 3
                  go_wp2_with (first | ((with_reducible refine gate_callee (f := 12) rfl ?_); refine goesL_ (some 46) rfl rfl Try.func12 (by kernel_rfl) rfl #[.agg #[.int .i64 t194, .int .i64 t195, .int .i64 t196, .int .i64 t197]] rfl (by (try simp only [List.map_toArray, List.map_cons, List.map_nil]); first | done | rfl | (simp only [List.length_drop, List.length_take]; rfl)) ?_; (with_reducible refine (rect_Area.calls t194 t195 t196 t197 t219 _ A49.out).mono ?_); rintro e w65 ⟨rfl, hb⟩; refine ⟨_, rfl, ?_⟩; have n0_ := Aside0.mk (Kd.R_below (by (with_reducible repeat (first | apply Kd.R_alloc | apply Kd.R_drewN | apply Kd.R_drew)); exact HO_6.out) hb); have n1_ := Aside0.mk (blk_below (g := gb204) (o := .cells #[.int .i64 t194, .int .i64 t195, .int .i64 t196, .int .i64 t197] 26 (0, 0)) (by (with_reducible repeat (first | refine blk_drewN ?_ _ | refine blk_drew ?_ | refine blk_alloc ?_ _)); exact BK204.out) hb); have n2_ := Aside0.mk (blk_below (g := gb205) (o := .cells #[.int .i64 t199, .int .i64 t200, .int .i64 t201, .int .i64 t202] 26 (0, 0)) (by (with_reducible repeat (first | refine blk_drewN ?_ _ | refine blk_drew ?_ | refine blk_alloc ?_ _)); exact BK205.out) hb); have n3_ := Aside0.mk (below_step (by repeat (first | (with_reducible first | exact HB.out | apply below_alloc | apply pw_below_drewN | apply below_drew1 | refine below_set ?_ GE204.out | refine below_set ?_ GE205.out) | exact HB.out)) hb); clear HO_6; clear BK204; clear BK205; clear HB; have HO_6 := n0_; have BK204 := n1_; have BK205 := n2_; have HB := n3_; clear n0_ n1_ n2_ n3_; (try clear hb); (try clear hb2); (try clear hk); (try clear hi); have hcz66_0 : w65.cell? ⟨gb204, 0, none⟩ = some (.int .i64 t194) := (blk_cell BK204.out 0).trans rfl; have hcz66_1 : w65.cell? ⟨gb204, 1, none⟩ = some (.int .i64 t195) := (blk_cell BK204.out 1).trans rfl; have hcz66_2 : w65.cell? ⟨gb204, 2, none⟩ = some (.int .i64 t196) := (blk_cell BK204.out 2).trans rfl; have hcz66_3 : w65.cell? ⟨gb204, 3, none⟩ = some (.int .i64 t197) := (blk_cell BK204.out 3).trans rfl; have hfz66_0 := blk_frozen BK204.out 0; have hfz66_1 := blk_frozen BK204.out 1; have hfz66_2 := blk_frozen BK204.out 2; have hfz66_3 := blk_frozen BK204.out 3; have hcz67_0 : w65.cell? ⟨gb205, 0, none⟩ = some (.int .i64 t199) := (blk_cell BK205.out 0).trans rfl; have hcz67_1 : w65.cell? ⟨gb205, 1, none⟩ = some (.int .i64 t200) := (blk_cell BK205.out 1).trans rfl; have hcz67_2 : w65.cell? ⟨gb205, 2, none⟩ = some (.int .i64 t201) := (blk_cell BK205.out 2).trans rfl; have hcz67_3 : w65.cell? ⟨gb205, 3, none⟩ = some (.int .i64 t202) := (blk_cell BK205.out 3).trans rfl; have hfz67_0 := blk_frozen BK205.out 0; have hfz67_1 := blk_frozen BK205.out 1; have hfz67_2 := blk_frozen BK205.out 2; have hfz67_3 := blk_frozen BK205.out 3) | (go_at_call 14; (with_reducible refine (rect_Inside.calls k2 t194 t195 t196 t197 t199 t200 t201 t202 t220 _ A51.out).mono ?_); rintro e w68 ⟨rfl, hb⟩; have n0_ := Aside0.mk (Kd.R_below (by (with_reducible repeat (first | apply Kd.R_alloc | apply Kd.R_drewN | apply Kd.R_drew)); exact HO_6.out) hb); have n1_ := Aside0.mk (blk_below (g := gb204) (o := .cells #[.int .i64 t194, .int .i64 t195, .int .i64 t196, .int .i64 t197] 26 (0, 0)) (by (with_reducible repeat (first | refine blk_drewN ?_ _ | refine blk_drew ?_ | refine blk_alloc ?_ _)); exact BK204.out) hb); have n2_ := Aside0.mk (blk_below (g := gb205) (o := .cells #[.int .i64 t199, .int .i64 t200, .int .i64 t201, .int .i64 t202] 26 (0, 0)) (by (with_reducible repeat (first | refine blk_drewN ?_ _ | refine blk_drew ?_ | refine blk_alloc ?_ _)); exact BK205.out) hb); have n3_ := Aside0.mk (below_step (by repeat (first | (with_reducible first | exact HB.out | apply below_alloc | apply pw_below_drewN | apply below_drew1 | refine below_set ?_ GE204.out | refine below_set ?_ GE205.out) | exact HB.out)) hb); clear HO_6; clear BK204; clear BK205; clear HB; have HO_6 := n0_; have BK204 := n1_; have BK205 := n2_; have HB := n3_; clear n0_ n1_ n2_ n3_; (try clear hb); (try clear hb2); (try clear hk); (try clear hi)))
                  go_ret
                  exact ⟨by first | rfl | (simp [errW_none, errW_some] <;> rfl) | (simp [*, errW_none, errW_some] <;> rfl), by repeat (first | (with_reducible first | exact HB.out | apply below_alloc | apply pw_below_drewN | apply below_drew1 | refine below_set ?_ GE204.out | refine below_set ?_ GE205.out) | exact HB.out)⟩
              · rw [if_neg c50] at H
                have c50b0 : (x7_2 == t219) = false := beq_eq_false_iff_ne.mpr c50
                have c50b1 : (x7_2 != t219) = true := bne_iff_ne.mpr c50
                obtain rfl := Option.some.inj H
                obtain ⟨Ao69, co69, eo69⟩ := Kd.R_slice HO_6.out
                subst eo69
                have hnb70 := NB204_205.out
                have hnc70 := NB205_204.out
                have hcz71_0 : wr.cell? ⟨gb204, 0, none⟩ = some (.int .i64 t194) := (blk_cell BK204.out 0).trans rfl
                have hcz71_1 : wr.cell? ⟨gb204, 1, none⟩ = some (.int .i64 t195) := (blk_cell BK204.out 1).trans rfl
                have hcz71_2 : wr.cell? ⟨gb204, 2, none⟩ = some (.int .i64 t196) := (blk_cell BK204.out 2).trans rfl
                have hcz71_3 : wr.cell? ⟨gb204, 3, none⟩ = some (.int .i64 t197) := (blk_cell BK204.out 3).trans rfl
                have hfz71_0 := blk_frozen BK204.out 0
                have hfz71_1 := blk_frozen BK204.out 1
                have hfz71_2 := blk_frozen BK204.out 2
                have hfz71_3 := blk_frozen BK204.out 3
                go_wp2_with (first | ((with_reducible refine gate_callee (f := 12) rfl ?_); refine goesL_ (some 46) rfl rfl Try.func12 (by kernel_rfl) rfl #[.agg #[.int .i64 t194, .int .i64 t195, .int .i64 t196, .int .i64 t197]] rfl (by (try simp only [List.map_toArray, List.map_cons, List.map_nil]); first | done | rfl | (simp only [List.length_drop, List.length_take]; rfl)) ?_; (with_reducible refine (rect_Area.calls t194 t195 t196 t197 t219 _ A49.out).mono ?_); rintro e w72 ⟨rfl, hb⟩; refine ⟨_, rfl, ?_⟩; have n0_ := Aside0.mk (Kd.R_below (by (with_reducible repeat (first | apply Kd.R_alloc | apply Kd.R_drewN | apply Kd.R_drew)); exact HO_6.out) hb); have n1_ := Aside0.mk (blk_below (g := gb204) (o := .cells #[.int .i64 t194, .int .i64 t195, .int .i64 t196, .int .i64 t197] 26 (0, 0)) (by (with_reducible repeat (first | refine blk_drewN ?_ _ | refine blk_drew ?_ | refine blk_alloc ?_ _)); exact BK204.out) hb); have n2_ := Aside0.mk (blk_below (g := gb205) (o := .cells #[.int .i64 t199, .int .i64 t200, .int .i64 t201, .int .i64 t202] 26 (0, 0)) (by (with_reducible repeat (first | refine blk_drewN ?_ _ | refine blk_drew ?_ | refine blk_alloc ?_ _)); exact BK205.out) hb); have n3_ := Aside0.mk (below_step (by repeat (first | (with_reducible first | exact HB.out | apply below_alloc | apply pw_below_drewN | apply below_drew1 | refine below_set ?_ GE204.out | refine below_set ?_ GE205.out) | exact HB.out)) hb); clear HO_6; clear BK204; clear BK205; clear HB; have HO_6 := n0_; have BK204 := n1_; have BK205 := n2_; have HB := n3_; clear n0_ n1_ n2_ n3_; (try clear hb); (try clear hb2); (try clear hk); (try clear hi)))
                go_ret
                exact ⟨by first | rfl | (simp [errW_none, errW_some] <;> rfl) | (simp [*, errW_none, errW_some] <;> rfl), by repeat (first | (with_reducible first | exact HB.out | apply below_alloc | apply pw_below_drewN | apply below_drew1 | refine below_set ?_ GE204.out | refine below_set ?_ GE205.out) | exact HB.out)⟩

/-- THE ONE PURE STATEMENT of tilefarmlaw2_RectAreas: yours. -/
def tilefarmlaw2_RectAreas.Pure : Prop := ∀ (l0 : List Int), l0.length ≤ maxLen → l0.length * 8 ≤ 140737488351232 → (∀ x ∈ l0, (Lit.int .i64 x).wf = true) → ∃ k, tilefarmlaw2_RectAreas.f k l0 = some true
theorem tilefarmlaw2_RectAreas.walk (P : tilefarmlaw2_RectAreas.Pure) (a0 : Option Addr) (len0 cap0 : Nat) (z0 : List Int) (w : World) (w0 : (a0 = none ∧ len0 = 0 ∧ cap0 = 0 ∧ z0 = []) ∨ ∃ x, a0 = some x ∧ len0 ≤ cap0 ∧ cap0 ≤ maxLen ∧ z0.length = cap0 ∧ (∀ i, i < z0.length → w.cell? (x.add i) = some (.int .i64 (z0.getD i 0))) ∧ ∀ n ∈ z0, (Lit.int .i64 n).wf = true) (y0 : len0 * 8 ≤ 140737488351232) :
    Calls Try.prog 3 #[.slice a0 len0 cap0] w fun e w' => e = .returned (.bool true) ∧ Below w.heap.size w w' := by
  obtain ⟨l0, rfl, hr0, hm0, hw0, hc0⟩ := ReadsInt.ofRowC w0
  obtain ⟨k, h⟩ := P l0 hm0 y0 hw0
  refine (tilefarmlaw2_RectAreas.calls k _ _ l0 true w (Kd.C_of_reads (d := (0 : Int)) (h1 := fun _ => rfl) hr0) hc0 h).mono ?_
  rintro e w' ⟨rfl, hd⟩
  exact ⟨rfl, hd⟩

end Go.Proofs.Ytdkmgcckcimhfaa.PRectAreas
