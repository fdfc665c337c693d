-- Written by a program of the session (wip/tools/pack.py): the printed texts, pruned; checked by Lean.
import Derived.Test.YtkipnpgcpohlcaaKIntegralSumsa
import Derived.Test.YtkipnpgcpohlcaaKIntegralSumsx0
import Derived.Test.YtkipnpgcpohlcaaKIntegralSumsx2
import Derived.Test.YtkipnpgcpohlcaaKIntegralSumsx4
import Derived.Test.YtkipnpgcpohlcaaKIntegralSumsx8
import Derived.Test.YtkipnpgcpohlcaaKIntegralSumsx9
namespace Go.Proofs.Ytkipnpgcpohlcaa.PIntegralSums
open Go.RowKit Go.Proofs.YtkipnpgcpohlcaaW.PrintWords Go.Proofs.YtkipnpgcpohlcaaW.PrintLast Go.Proofs.YtkipnpgcpohlcaaW.PrintMore
attribute [local go_sem] max2_int min2_int max_two min_two max_three min_three max_four min_four   -- for this text's walks alone
set_option linter.unusedVariables false
set_option linter.unusedSimpArgs false
mutual
def tilefarmlaw13_IntegralSums.l0 : Nat → Int → Int → Int → Int → Int → Int → Int → List Int → Int → Int → Int → Int → Option (Bool)
  | 0, _, _, _, _, _, _, _, _, _, _, _, _ => none
  | k + 1, x6, x8, x9, x10, x292000, x292001, x292002, x292003, x306000, x306001, x306002, x306003 => if x10 < x306003 then (tilefarmlaw13_IntegralSums.l1 k x6 x8 x9 x10 x306000 x292000 x292001 x292002 x292003 x306000 x306001 x306002 x306003) else (if x6 = 0 then (if x9 = 0 then (if x8 = 0 then ((tilefarmlaw13_sane.f k).bind fun t308 => (some t308)) else (some false)) else (some false)) else (some false))
def tilefarmlaw13_IntegralSums.l1 : Nat → Int → Int → Int → Int → Int → Int → Int → Int → List Int → Int → Int → Int → Int → Option (Bool)
  | 0, _, _, _, _, _, _, _, _, _, _, _, _, _ => none
  | k + 1, x6, x8, x9, x10, x11, x292000, x292001, x292002, x292003, x306000, x306001, x306002, x306003 => if x11 < x306002 then (if 0 ≤ (wrap64 ((wrap64 (x10 * x292000)) + x11)) then (if (wrap64 ((wrap64 (x10 * x292000)) + x11)) < (x292003.length : Int) then (tilefarmlaw13_IntegralSums.l1 k x6 (wrap64 (x8 - (rd x292003 (wrap64 ((wrap64 (x10 * x292000)) + x11))))) x9 x10 (wrap64 (x11 + 1)) x292000 x292001 x292002 x292003 x306000 x306001 x306002 x306003) else (none)) else (none)) else (tilefarmlaw13_IntegralSums.l0 k x6 x8 x9 (wrap64 (x10 + 1)) x292000 x292001 x292002 x292003 x306000 x306001 x306002 x306003)
end
def tilefarmlaw13_IntegralSums.f (k : Nat) (l0 : List Int) : Option (Bool) := (tilefarmgen_New.f l0).bind fun bt281 => ((tilefarmgen_Tape_Plane.f k bt281.1 bt281.2).bind fun bt284 => ((integral_Whole.f k bt284.1 bt284.2.1 bt284.2.2.1 bt284.2.2.2.1).bind fun bt292 => ((tilefarmgen_Tape_Within.f bt281.1 bt284.2.2.2.2 bt284.1 bt284.2.1).bind fun bt300 => ((integral_Sum.f k bt292.1 bt292.2.1 bt292.2.2.1 bt292.2.2.2.1 bt300.1 bt300.2.1 bt300.2.2.1 bt300.2.2.2.1).bind fun bt306 => (tilefarmlaw13_IntegralSums.l0 k bt292.2.2.2.2 bt306.1 bt306.2 bt300.2.1 bt284.1 bt284.2.1 bt284.2.2.1 bt284.2.2.2.1 bt300.1 bt300.2.1 bt300.2.2.1 bt300.2.2.2.1)))))
theorem tilefarmlaw13_IntegralSums.mono_l : ∀ k, (∀ y0 y1 y2 y3 y4 y5 y6 y7 y8 y9 y10 y11, LeO (tilefarmlaw13_IntegralSums.l0 k y0 y1 y2 y3 y4 y5 y6 y7 y8 y9 y10 y11) (tilefarmlaw13_IntegralSums.l0 (k + 1) y0 y1 y2 y3 y4 y5 y6 y7 y8 y9 y10 y11)) ∧ (∀ y0 y1 y2 y3 y4 y5 y6 y7 y8 y9 y10 y11 y12, LeO (tilefarmlaw13_IntegralSums.l1 k y0 y1 y2 y3 y4 y5 y6 y7 y8 y9 y10 y11 y12) (tilefarmlaw13_IntegralSums.l1 (k + 1) y0 y1 y2 y3 y4 y5 y6 y7 y8 y9 y10 y11 y12))
  | 0 => ⟨fun _ _ _ _ _ _ _ _ _ _ _ _ r h => by simp [tilefarmlaw13_IntegralSums.l0] at h, fun _ _ _ _ _ _ _ _ _ _ _ _ _ r h => by simp [tilefarmlaw13_IntegralSums.l1] at h⟩
  | k + 1 => by
    obtain ⟨ih0, ih1⟩ := tilefarmlaw13_IntegralSums.mono_l k
    refine ⟨?_, ?_⟩
    · intro y0 y1 y2 y3 y4 y5 y6 y7 y8 y9 y10 y11
      unfold tilefarmlaw13_IntegralSums.l0
      repeat' first
      | (with_reducible exact ih0 _ _ _ _ _ _ _ _ _ _ _ _)
      | (with_reducible exact ih1 _ _ _ _ _ _ _ _ _ _ _ _ _)
      | (with_reducible exact integral_Sum.mono _ _ _ _ _ _ _ _ _)
      | (with_reducible exact integral_Whole.mono _ _ _ _ _)
      | (with_reducible exact tilefarmgen_Tape_Plane.mono _ _ _)
      | (with_reducible exact tilefarmlaw13_sane.mono _)
      | (with_reducible exact LeO.refl _)
      | (with_reducible exact LeO.none _)
      | (with_reducible refine LeO.ite ?_ ?_)
      | (with_reducible refine LeO.bind ?_ (fun _ => ?_))
      | exact ih0 _ _ _ _ _ _ _ _ _ _ _ _
      | exact ih1 _ _ _ _ _ _ _ _ _ _ _ _ _
      | exact integral_Sum.mono _ _ _ _ _ _ _ _ _
      | exact integral_Whole.mono _ _ _ _ _
      | exact tilefarmgen_Tape_Plane.mono _ _ _
      | exact tilefarmlaw13_sane.mono _
      | exact LeO.none _
      | refine LeO.ite ?_ ?_
      | refine LeO.bind ?_ (fun _ => ?_)
    · intro y0 y1 y2 y3 y4 y5 y6 y7 y8 y9 y10 y11 y12
      unfold tilefarmlaw13_IntegralSums.l1
      repeat' first
      | (with_reducible exact ih0 _ _ _ _ _ _ _ _ _ _ _ _)
      | (with_reducible exact ih1 _ _ _ _ _ _ _ _ _ _ _ _ _)
      | (with_reducible exact integral_Sum.mono _ _ _ _ _ _ _ _ _)
      | (with_reducible exact integral_Whole.mono _ _ _ _ _)
      | (with_reducible exact tilefarmgen_Tape_Plane.mono _ _ _)
      | (with_reducible exact tilefarmlaw13_sane.mono _)
      | (with_reducible exact LeO.refl _)
      | (with_reducible exact LeO.none _)
      | (with_reducible refine LeO.ite ?_ ?_)
      | (with_reducible refine LeO.bind ?_ (fun _ => ?_))
      | exact ih0 _ _ _ _ _ _ _ _ _ _ _ _
      | exact ih1 _ _ _ _ _ _ _ _ _ _ _ _ _
      | exact integral_Sum.mono _ _ _ _ _ _ _ _ _
      | exact integral_Whole.mono _ _ _ _ _
      | exact tilefarmgen_Tape_Plane.mono _ _ _
      | exact tilefarmlaw13_sane.mono _
      | exact LeO.none _
      | refine LeO.ite ?_ ?_
      | refine LeO.bind ?_ (fun _ => ?_)
theorem tilefarmlaw13_IntegralSums.mono : ∀ a0 k, LeO (tilefarmlaw13_IntegralSums.f k a0) (tilefarmlaw13_IntegralSums.f (k + 1) a0) := by
  intro a0 k
  obtain ⟨ih0, ih1⟩ := tilefarmlaw13_IntegralSums.mono_l k
  unfold tilefarmlaw13_IntegralSums.f
  repeat' first
      | (with_reducible exact ih0 _ _ _ _ _ _ _ _ _ _ _ _)
      | (with_reducible exact ih1 _ _ _ _ _ _ _ _ _ _ _ _ _)
      | (with_reducible exact integral_Sum.mono _ _ _ _ _ _ _ _ _)
      | (with_reducible exact integral_Whole.mono _ _ _ _ _)
      | (with_reducible exact tilefarmgen_Tape_Plane.mono _ _ _)
      | (with_reducible exact tilefarmlaw13_sane.mono _)
      | (with_reducible exact LeO.refl _)
      | (with_reducible exact LeO.none _)
      | (with_reducible refine LeO.ite ?_ ?_)
      | (with_reducible refine LeO.bind ?_ (fun _ => ?_))
      | exact ih0 _ _ _ _ _ _ _ _ _ _ _ _
      | exact ih1 _ _ _ _ _ _ _ _ _ _ _ _ _
      | exact integral_Sum.mono _ _ _ _ _ _ _ _ _
      | exact integral_Whole.mono _ _ _ _ _
      | exact tilefarmgen_Tape_Plane.mono _ _ _
      | exact tilefarmlaw13_sane.mono _
      | exact LeO.none _
      | refine LeO.ite ?_ ?_
      | refine LeO.bind ?_ (fun _ => ?_)
set_option maxHeartbeats 8000000 in
set_option maxRecDepth 100000 in
theorem tilefarmlaw13_IntegralSums.calls (k : Nat) (A0 : Option Addr) (c0 : Nat) (l0 : List Int) (r : Bool) (w : World) (hr0 : Kd.C (Kd.int .i64) w A0 l0.length l0) (hc0 : l0.length ≤ c0) (h : tilefarmlaw13_IntegralSums.f k l0 = some r) (hT : r = true := by first | rfl | assumption | exact HT.out) :
    Calls Try.prog 6 #[.slice A0 l0.length c0] w fun e w' => e = .returned (.bool r) ∧ Below w.heap.size w w' := by
  have HT := Aside0.mk hT
  clear hT
  have hu26 := Try.underlying26
  have hu32 := Try.underlying32
  have HR0 := Aside0.mk hr0
  have HC0 := Aside0.mk hc0
  clear hr0 hc0
  have HB := Aside0.mk (Below.refl w.heap.size w)
  have H : ((tilefarmgen_New.f l0).bind fun bt281 => ((tilefarmgen_Tape_Plane.f k bt281.1 bt281.2).bind fun bt284 => ((integral_Whole.f k bt284.1 bt284.2.1 bt284.2.2.1 bt284.2.2.2.1).bind fun bt292 => ((tilefarmgen_Tape_Within.f bt281.1 bt284.2.2.2.2 bt284.1 bt284.2.1).bind fun bt300 => ((integral_Sum.f k bt292.1 bt292.2.1 bt292.2.2.1 bt292.2.2.2.1 bt300.1 bt300.2.1 bt300.2.2.1 bt300.2.2.2.1).bind fun bt306 => (tilefarmlaw13_IntegralSums.l0 k bt292.2.2.2.2 bt306.1 bt306.2 bt300.2.1 bt284.1 bt284.2.1 bt284.2.2.1 bt284.2.2.2.1 bt300.1 bt300.2.1 bt300.2.2.1 bt300.2.2.2.1)))))) = some r := h
  clear h
  replace H := Option.bind_eq_some_iff.mp H
  obtain ⟨⟨t281, t282⟩, A20, H⟩ := H
  replace H : ((tilefarmgen_Tape_Plane.f k t281 t282).bind fun bt284 => ((integral_Whole.f k bt284.1 bt284.2.1 bt284.2.2.1 bt284.2.2.2.1).bind fun bt292 => ((tilefarmgen_Tape_Within.f t281 bt284.2.2.2.2 bt284.1 bt284.2.1).bind fun bt300 => ((integral_Sum.f k bt292.1 bt292.2.1 bt292.2.2.1 bt292.2.2.2.1 bt300.1 bt300.2.1 bt300.2.2.1 bt300.2.2.2.1).bind fun bt306 => (tilefarmlaw13_IntegralSums.l0 k bt292.2.2.2.2 bt306.1 bt306.2 bt300.2.1 bt284.1 bt284.2.1 bt284.2.2.1 bt284.2.2.2.1 bt300.1 bt300.2.1 bt300.2.2.1 bt300.2.2.2.1))))) = some r := H
  have A2 := Aside0.mk A20
  clear A20
  replace H := Option.bind_eq_some_iff.mp H
  obtain ⟨⟨t284, t285, t286, t287, t290⟩, A30, H⟩ := H
  replace H : ((integral_Whole.f k t284 t285 t286 t287).bind fun bt292 => ((tilefarmgen_Tape_Within.f t281 t290 t284 t285).bind fun bt300 => ((integral_Sum.f k bt292.1 bt292.2.1 bt292.2.2.1 bt292.2.2.2.1 bt300.1 bt300.2.1 bt300.2.2.1 bt300.2.2.2.1).bind fun bt306 => (tilefarmlaw13_IntegralSums.l0 k bt292.2.2.2.2 bt306.1 bt306.2 bt300.2.1 t284 t285 t286 t287 bt300.1 bt300.2.1 bt300.2.2.1 bt300.2.2.2.1)))) = some r := H
  have A3 := Aside0.mk A30
  clear A30
  replace H := Option.bind_eq_some_iff.mp H
  obtain ⟨⟨t292, t293, t294, t295, t298⟩, A40, H⟩ := H
  replace H : ((tilefarmgen_Tape_Within.f t281 t290 t284 t285).bind fun bt300 => ((integral_Sum.f k t292 t293 t294 t295 bt300.1 bt300.2.1 bt300.2.2.1 bt300.2.2.2.1).bind fun bt306 => (tilefarmlaw13_IntegralSums.l0 k t298 bt306.1 bt306.2 bt300.2.1 t284 t285 t286 t287 bt300.1 bt300.2.1 bt300.2.2.1 bt300.2.2.2.1))) = some r := H
  have A4 := Aside0.mk A40
  clear A40
  replace H := Option.bind_eq_some_iff.mp H
  obtain ⟨⟨t300, t301, t302, t303, t304⟩, A50, H⟩ := H
  replace H : ((integral_Sum.f k t292 t293 t294 t295 t300 t301 t302 t303).bind fun bt306 => (tilefarmlaw13_IntegralSums.l0 k t298 bt306.1 bt306.2 t301 t284 t285 t286 t287 t300 t301 t302 t303)) = some r := H
  have A5 := Aside0.mk A50
  clear A50
  replace H := Option.bind_eq_some_iff.mp H
  obtain ⟨⟨t306, t307⟩, A60, H⟩ := H
  replace H : (tilefarmlaw13_IntegralSums.l0 k t298 t306 t307 t301 t284 t285 t286 t287 t300 t301 t302 t303) = some r := H
  have A6 := Aside0.mk A60
  clear A60
  have H' := Aside0.mk H
  clear H
  go_enter Try.func6, Try.ntmps6
  go_wp2_with (first | ((with_reducible refine gate_callee (f := 8) rfl ?_); refine goesL_ (some 13) rfl rfl Try.func8 (by kernel_rfl) rfl #[.slice A0 l0.length c0] rfl q78_ ?_; (with_reducible refine (tilefarmgen_New.calls _ _ l0 t281 t282 w _ ?side1 ?side2 ?side3 A2.out).mono ?_); (case side1 => repeat (first | (with_reducible first | exact HB.out | apply below_alloc | apply pw_below_drewN | apply below_drew1) | exact HB.out)); (case side2 => exact HR0.out); (case side3 => exact HC0.out); rintro e w7 ⟨g283, rfl, hi, hb, hb2⟩; refine ⟨_, rfl, ?_⟩; have n0_ := Aside0.mk (hb); have n1_ := Aside0.mk (hi); clear HB; have HB := n0_; have HI283 := n1_; clear n0_ n1_; (try clear hb); (try clear hb2); (try clear hk); (try clear hi)) | ((with_reducible refine gate_callee (f := 9) rfl ?_); refine goesL_ (some 15) rfl rfl Try.func9 (by kernel_rfl) rfl #[.pointer (some ⟨g283, 0, none⟩)] rfl q78_ ?_; (with_reducible refine (tilefarmgen_Tape_Plane.calls k g283 t281 t282 t284 t285 t286 t287 t290 w _ ?side1 ?side2 A3.out).mono ?_); (case side1 => repeat (first | (with_reducible first | exact HI283.out | apply IsS56.alloc | apply IsS56.drewN | apply IsS56.drew | apply IsS56.set_1) | exact HI283.out)); (case side2 => repeat (first | (with_reducible first | exact HB.out | apply below_alloc | apply pw_below_drewN | apply below_drew1 | refine below_set ?_ (IsS56.ge HI283.out)) | exact HB.out)); rintro e w8 ⟨v288, rfl, ho0, hi, hb, hk⟩; refine ⟨_, rfl, ?_⟩; have n0_ := Aside0.mk (Kd.R_lower ho0 (below_size q58_)); have n1_ := Aside0.mk (hb); have n2_ := Aside0.mk (hi); clear HB; clear HI283; have HO289 := n0_; have HB := n1_; have HI283 := n2_; clear n0_ n1_ n2_; (try clear hb); (try clear hb2); (try clear hk); (try clear hi); (try clear ho0)) | ((with_reducible refine gate_dst (N := 4) rfl ?_); refine box_event ?hg (N := 4) ?hd (cs := #[.int .i64 0, .int .i64 0, .int .i64 0, .slice none 0 0]) (t := 26) ?hr ?_; (case hd => rfl); (case hg => rfl); (case hr => first | (go_simp; done) | (go_simp; rfl)); intro gb291 hg w9 hbox hb; have n0_ := Aside0.mk (Kd.R_below q124_ hb); have n1_ := Aside0.mk (IsS56.below (by repeat (first | (with_reducible first | exact HI283.out | apply IsS56.alloc | apply IsS56.drewN | apply IsS56.drew | apply IsS56.set_1) | exact HI283.out)) hb); have n2_ := Aside0.mk (below_step q58_ hb); have n3_ := Aside0.mk (hbox); have n4_ := Aside0.mk ((by rw [hg]; exact (below_size q58_) : w.heap.size ≤ gb291)); have n5_ := Aside0.mk ((by rw [hg]; exact (below_size q58_) : w.heap.size ≤ gb291)); have n6_ := Aside0.mk ((by rw [hg]; exact Nat.ne_of_lt (IsS56.lt (show IsS56 w _ g283 t281 t290 from by repeat (first | (with_reducible first | exact HI283.out | apply IsS56.alloc | apply IsS56.drewN | apply IsS56.drew | apply IsS56.set_1) | exact HI283.out))) : g283 ≠ gb291)); have n7_ := Aside0.mk ((by rw [hg]; exact Nat.ne_of_gt (IsS56.lt (show IsS56 w _ g283 t281 t290 from by repeat (first | (with_reducible first | exact HI283.out | apply IsS56.alloc | apply IsS56.drewN | apply IsS56.drew | apply IsS56.set_1) | exact HI283.out))) : gb291 ≠ g283)); clear HO289; clear HI283; clear HB; have HO289 := n0_; have HI283 := n1_; have HB := n2_; have BK291 := n3_; have GW291 := n4_; have GE291 := n5_; have NB283_291 := n6_; have NB291_283 := n7_; clear n0_ n1_ n2_ n3_ n4_ n5_ n6_ n7_; clear hb hbox hg; have hnb10 := NB291_283.out; have hnc10 := NB283_291.out; have hcz11_0 : w9.cell? ⟨gb291, 0, none⟩ = some (.int .i64 0) := (blk_cell BK291.out 0).trans rfl; have hcz11_1 : w9.cell? ⟨gb291, 1, none⟩ = some (.int .i64 0) := (blk_cell BK291.out 1).trans rfl; have hcz11_2 : w9.cell? ⟨gb291, 2, none⟩ = some (.int .i64 0) := (blk_cell BK291.out 2).trans rfl; have hcz11_3 : w9.cell? ⟨gb291, 3, none⟩ = some (.slice none 0 0) := (blk_cell BK291.out 3).trans rfl; have hfz11_0 := blk_frozen BK291.out 0; have hfz11_1 := blk_frozen BK291.out 1; have hfz11_2 := blk_frozen BK291.out 2; have hfz11_3 := blk_frozen BK291.out 3; obtain ⟨Ao12, co12, eo12⟩ := Kd.R_slice HO289.out; subst eo12) | ((with_reducible refine gate_callee (f := 10) rfl ?_); refine goesL_ (some 18) rfl rfl Try.func10 (by kernel_rfl) rfl #[.agg #[.int .i64 t284, .int .i64 t285, .int .i64 t286, .slice Ao12 t287.length co12]] rfl q78_ ?_; (with_reducible refine (integral_Whole.calls k t284 t285 t286 _ _ t287 t292 t293 t294 t295 t298 _ ?side1 ?side2 A4.out).mono ?_); (case side1 => refine (Kd.R_reads' (e := 3) (base := w.heap.size) (ok := fun k_ => True) (n := t287.length) (c := co12) ?_).2.2; exact q1_); (case side2 => exact (Kd.R_reads' HO289.out).2.1); rintro e w13 ⟨v296, rfl, ho0, hb⟩; refine ⟨_, rfl, ?_⟩; have n0_ := Aside0.mk (Kd.R_elder' q1_ (Kd.R_base ho0) hb); have n1_ := Aside0.mk (Kd.R_lower (Kd.R_new' ho0 (Kd.R_lt q1_)) (below_size q41_)); have n2_ := Aside0.mk (IsS56.below (show IsS56 w ((((w9.setCell ⟨gb291, 0, none⟩ (.int .i64 t284)).setCell ⟨gb291, 1, none⟩ (.int .i64 t285)).setCell ⟨gb291, 2, none⟩ (.int .i64 t286)).setCell ⟨gb291, 3, none⟩ (.slice Ao12 t287.length co12)) g283 t281 t290 from by repeat (first | (with_reducible first | exact HI283.out | apply IsS56.alloc | apply IsS56.drewN | apply IsS56.drew | apply IsS56.set_1 | refine IsS56.far ?_ NB283_291.out _) | exact HI283.out)) hb); have n3_ := Aside0.mk (blk_below (g := gb291) (o := .cells #[.int .i64 t284, .int .i64 t285, .int .i64 t286, .slice Ao12 t287.length co12] 26 (0, 0)) (by (with_reducible repeat (first | refine blk_drewN ?_ _ | refine blk_drew ?_ | refine blk_alloc ?_ _)); refine blk_put (cs := #[.int .i64 t284, .int .i64 t285, .int .i64 t286, .slice none 0 0]) ?_ 3 _ rfl; (with_reducible repeat (first | refine blk_drewN ?_ _ | refine blk_drew ?_ | refine blk_alloc ?_ _)); refine blk_put (cs := #[.int .i64 t284, .int .i64 t285, .int .i64 0, .slice none 0 0]) ?_ 2 _ rfl; (with_reducible repeat (first | refine blk_drewN ?_ _ | refine blk_drew ?_ | refine blk_alloc ?_ _)); refine blk_put (cs := #[.int .i64 t284, .int .i64 0, .int .i64 0, .slice none 0 0]) ?_ 1 _ rfl; (with_reducible repeat (first | refine blk_drewN ?_ _ | refine blk_drew ?_ | refine blk_alloc ?_ _)); refine blk_put (cs := #[.int .i64 0, .int .i64 0, .int .i64 0, .slice none 0 0]) ?_ 0 _ rfl; (with_reducible repeat (first | refine blk_drewN ?_ _ | refine blk_drew ?_ | refine blk_alloc ?_ _)); exact BK291.out) hb); have n4_ := Aside0.mk (below_step q41_ hb); clear HO289; clear HI283; clear BK291; clear HB; have HO289 := n0_; have HO297 := n1_; have HI283 := n2_; have BK291 := n3_; have HB := n4_; clear n0_ n1_ n2_ n3_ n4_; (try clear hb); (try clear hb2); (try clear hk); (try clear hi); (try clear ho0)) | ((with_reducible refine gate_dst (N := 5) rfl ?_); refine box_event ?hg (N := 5) ?hd (cs := #[.int .i64 0, .int .i64 0, .int .i64 0, .slice none 0 0]) (t := 26) ?hr ?_; (case hd => rfl); (case hg => rfl); (case hr => first | (go_simp; done) | (go_simp; rfl)); intro gb299 hg w14 hbox hb; have n0_ := Aside0.mk (Kd.R_below q124_ hb); have n1_ := Aside0.mk (Kd.R_below (by (with_reducible repeat (first | apply Kd.R_alloc | apply Kd.R_drewN | apply Kd.R_drew)); exact HO297.out) hb); have n2_ := Aside0.mk (IsS56.below (by repeat (first | (with_reducible first | exact HI283.out | apply IsS56.alloc | apply IsS56.drewN | apply IsS56.drew | apply IsS56.set_1 | refine IsS56.far ?_ NB283_291.out _) | exact HI283.out)) hb); have n3_ := Aside0.mk (blk_below (g := gb291) (o := .cells #[.int .i64 t284, .int .i64 t285, .int .i64 t286, .slice Ao12 t287.length co12] 26 (0, 0)) q107_ hb); have n4_ := Aside0.mk (below_step q41_ hb); have n5_ := Aside0.mk (hbox); have n6_ := Aside0.mk ((by rw [hg]; exact (below_size q41_) : w.heap.size ≤ gb299)); have n7_ := Aside0.mk ((by rw [hg]; exact (below_size q41_) : w.heap.size ≤ gb299)); have n8_ := Aside0.mk ((by rw [hg]; exact Nat.ne_of_lt (blk_lt (g := gb291) (o := .cells #[.int .i64 t284, .int .i64 t285, .int .i64 t286, .slice Ao12 t287.length co12] 26 (0, 0)) q107_) : gb291 ≠ gb299)); have n9_ := Aside0.mk ((by rw [hg]; exact Nat.ne_of_gt (blk_lt (g := gb291) (o := .cells #[.int .i64 t284, .int .i64 t285, .int .i64 t286, .slice Ao12 t287.length co12] 26 (0, 0)) q107_) : gb299 ≠ gb291)); have n10_ := Aside0.mk ((by rw [hg]; exact Nat.ne_of_lt (IsS56.lt (show IsS56 w _ g283 t281 t290 from by repeat (first | (with_reducible first | exact HI283.out | apply IsS56.alloc | apply IsS56.drewN | apply IsS56.drew | apply IsS56.set_1 | refine IsS56.far ?_ NB283_291.out _) | exact HI283.out))) : g283 ≠ gb299)); have n11_ := Aside0.mk ((by rw [hg]; exact Nat.ne_of_gt (IsS56.lt (show IsS56 w _ g283 t281 t290 from by repeat (first | (with_reducible first | exact HI283.out | apply IsS56.alloc | apply IsS56.drewN | apply IsS56.drew | apply IsS56.set_1 | refine IsS56.far ?_ NB283_291.out _) | exact HI283.out))) : gb299 ≠ g283)); clear HO289; clear HO297; clear HI283; clear BK291; clear HB; have HO289 := n0_; have HO297 := n1_; have HI283 := n2_; have BK291 := n3_; have HB := n4_; have BK299 := n5_; have GW299 := n6_; have GE299 := n7_; have NB291_299 := n8_; have NB299_291 := n9_; have NB283_299 := n10_; have NB299_283 := n11_; clear n0_ n1_ n2_ n3_ n4_ n5_ n6_ n7_ n8_ n9_ n10_ n11_; clear hb hbox hg; have hnb15 := NB299_291.out; have hnc15 := NB291_299.out; have hnb16 := NB299_283.out; have hnc16 := NB283_299.out; have hcz17_0 : w14.cell? ⟨gb299, 0, none⟩ = some (.int .i64 0) := (blk_cell BK299.out 0).trans rfl; have hcz17_1 : w14.cell? ⟨gb299, 1, none⟩ = some (.int .i64 0) := (blk_cell BK299.out 1).trans rfl; have hcz17_2 : w14.cell? ⟨gb299, 2, none⟩ = some (.int .i64 0) := (blk_cell BK299.out 2).trans rfl; have hcz17_3 : w14.cell? ⟨gb299, 3, none⟩ = some (.slice none 0 0) := (blk_cell BK299.out 3).trans rfl; have hfz17_0 := blk_frozen BK299.out 0; have hfz17_1 := blk_frozen BK299.out 1; have hfz17_2 := blk_frozen BK299.out 2; have hfz17_3 := blk_frozen BK299.out 3; obtain ⟨Ao18, co18, eo18⟩ := Kd.R_slice HO297.out; subst eo18; have hcz19_0 : w14.cell? ⟨gb291, 0, none⟩ = some (.int .i64 t284) := (blk_cell BK291.out 0).trans rfl; have hcz19_1 : w14.cell? ⟨gb291, 1, none⟩ = some (.int .i64 t285) := (blk_cell BK291.out 1).trans rfl; have hcz19_2 : w14.cell? ⟨gb291, 2, none⟩ = some (.int .i64 t286) := (blk_cell BK291.out 2).trans rfl; have hcz19_3 : w14.cell? ⟨gb291, 3, none⟩ = some (.slice Ao12 t287.length co12) := (blk_cell BK291.out 3).trans rfl; have hfz19_0 := blk_frozen BK291.out 0; have hfz19_1 := blk_frozen BK291.out 1; have hfz19_2 := blk_frozen BK291.out 2; have hfz19_3 := blk_frozen BK291.out 3) | ((with_reducible refine gate_callee (f := 11) rfl ?_); refine goesL_ (some 26) rfl rfl Try.func11 (by kernel_rfl) rfl #[.pointer (some ⟨g283, 0, none⟩), .int .i64 t284, .int .i64 t285] rfl q78_ ?_; (with_reducible refine (tilefarmgen_Tape_Within.calls g283 t281 t290 t284 t285 t300 t301 t302 t303 t304 w _ ?side1 ?side2 A5.out).mono ?_); (case side1 => repeat (first | (with_reducible first | exact HI283.out | apply IsS56.alloc | apply IsS56.drewN | apply IsS56.drew | apply IsS56.set_1 | refine IsS56.far ?_ NB283_291.out _ | refine IsS56.far ?_ NB283_299.out _) | exact HI283.out)); (case side2 => repeat (first | (with_reducible first | exact HB.out | apply below_alloc | apply pw_below_drewN | apply below_drew1 | refine below_set ?_ (IsS56.ge HI283.out) | refine below_set ?_ GE291.out | refine below_set ?_ GE299.out) | exact HB.out)); rintro e w20 ⟨rfl, hi, hb, hk⟩; refine ⟨_, rfl, ?_⟩; have n0_ := Aside0.mk (Kd.R_mono (Kd.R_keep (IsS56.apart (show IsS56 w _ g283 t281 t290 from by repeat (first | (with_reducible first | exact HI283.out | apply IsS56.alloc | apply IsS56.drewN | apply IsS56.drew | apply IsS56.set_1 | refine IsS56.far ?_ NB283_291.out _ | refine IsS56.far ?_ NB283_299.out _) | exact HI283.out)) (by (with_reducible repeat (first | apply Kd.R_alloc | apply Kd.R_drewN | apply Kd.R_drew)); exact (Kd.R_mono (Kd.R_far (p := ⟨gb299, 3, none⟩) (Kd.R_far (p := ⟨gb299, 2, none⟩) (Kd.R_far (p := ⟨gb299, 1, none⟩) (Kd.R_far (p := ⟨gb299, 0, none⟩) (Kd.R_types HO289.out BK299.out (by decide)) (fun _ hk => hk.2) (.int .i64 t292)) (fun _ hk => hk.2) (.int .i64 t293)) (fun _ hk => hk.2) (.int .i64 t294)) (fun _ hk => hk.2) (.slice Ao18 t295.length co18)) (fun _ h_ => h_.1))) (by decide)) hk (fun _ h => h.2)) (fun _ h => h.1)); have n1_ := Aside0.mk (KeepBut.blk hk (g' := gb291) (o := .cells #[.int .i64 t284, .int .i64 t285, .int .i64 t286, .slice Ao12 t287.length co12] 26 (0, 0)) (by (with_reducible repeat (first | refine blk_drewN ?_ _ | refine blk_drew ?_ | refine blk_alloc ?_ _)); refine blk_far ?_ NB291_299.out _; (with_reducible repeat (first | refine blk_drewN ?_ _ | refine blk_drew ?_ | refine blk_alloc ?_ _)); refine blk_far ?_ NB291_299.out _; (with_reducible repeat (first | refine blk_drewN ?_ _ | refine blk_drew ?_ | refine blk_alloc ?_ _)); refine blk_far ?_ NB291_299.out _; (with_reducible repeat (first | refine blk_drewN ?_ _ | refine blk_drew ?_ | refine blk_alloc ?_ _)); refine blk_far ?_ NB291_299.out _; (with_reducible repeat (first | refine blk_drewN ?_ _ | refine blk_drew ?_ | refine blk_alloc ?_ _)); exact BK291.out) NB291_283.out (by simp)); have n2_ := Aside0.mk (Kd.R_mono (Kd.R_keep (IsS56.apart (show IsS56 w _ g283 t281 t290 from by repeat (first | (with_reducible first | exact HI283.out | apply IsS56.alloc | apply IsS56.drewN | apply IsS56.drew | apply IsS56.set_1 | refine IsS56.far ?_ NB283_291.out _ | refine IsS56.far ?_ NB283_299.out _) | exact HI283.out)) (by (with_reducible repeat (first | apply Kd.R_alloc | apply Kd.R_drewN | apply Kd.R_drew)); exact (Kd.R_mono (Kd.R_far (p := ⟨gb299, 3, none⟩) (Kd.R_far (p := ⟨gb299, 2, none⟩) (Kd.R_far (p := ⟨gb299, 1, none⟩) (Kd.R_far (p := ⟨gb299, 0, none⟩) (Kd.R_types HO297.out BK299.out (by decide)) (fun _ hk => hk.2) (.int .i64 t292)) (fun _ hk => hk.2) (.int .i64 t293)) (fun _ hk => hk.2) (.int .i64 t294)) (fun _ hk => hk.2) (.slice Ao18 t295.length co18)) (fun _ h_ => h_.1))) (by decide)) hk (fun _ h => h.2)) (fun _ h => h.1)); have n3_ := Aside0.mk (KeepBut.blk hk (g' := gb299) (o := .cells #[.int .i64 t292, .int .i64 t293, .int .i64 t294, .slice Ao18 t295.length co18] 26 (0, 0)) (by (with_reducible repeat (first | refine blk_drewN ?_ _ | refine blk_drew ?_ | refine blk_alloc ?_ _)); refine blk_put (cs := #[.int .i64 t292, .int .i64 t293, .int .i64 t294, .slice none 0 0]) ?_ 3 _ rfl; (with_reducible repeat (first | refine blk_drewN ?_ _ | refine blk_drew ?_ | refine blk_alloc ?_ _)); refine blk_put (cs := #[.int .i64 t292, .int .i64 t293, .int .i64 0, .slice none 0 0]) ?_ 2 _ rfl; (with_reducible repeat (first | refine blk_drewN ?_ _ | refine blk_drew ?_ | refine blk_alloc ?_ _)); refine blk_put (cs := #[.int .i64 t292, .int .i64 0, .int .i64 0, .slice none 0 0]) ?_ 1 _ rfl; (with_reducible repeat (first | refine blk_drewN ?_ _ | refine blk_drew ?_ | refine blk_alloc ?_ _)); refine blk_put (cs := #[.int .i64 0, .int .i64 0, .int .i64 0, .slice none 0 0]) ?_ 0 _ rfl; (with_reducible repeat (first | refine blk_drewN ?_ _ | refine blk_drew ?_ | refine blk_alloc ?_ _)); exact BK299.out) NB299_283.out (by simp)); have n4_ := Aside0.mk (hb); have n5_ := Aside0.mk (hi); clear HO289; clear BK291; clear HO297; clear BK299; clear HB; clear HI283; have HO289 := n0_; have BK291 := n1_; have HO297 := n2_; have BK299 := n3_; have HB := n4_; have HI283 := n5_; clear n0_ n1_ n2_ n3_ n4_ n5_; (try clear hb); (try clear hb2); (try clear hk); (try clear hi)) | ((with_reducible refine gate_dst (N := 7) rfl ?_); refine box_event ?hg (N := 7) ?hd (cs := #[.int .i64 0, .int .i64 0, .int .i64 0, .int .i64 0]) (t := 32) ?hr ?_; (case hd => rfl); (case hg => rfl); (case hr => first | (go_simp; done) | (go_simp; rfl)); intro gb305 hg w21 hbox hb; have n0_ := Aside0.mk (Kd.R_below q124_ hb); have n1_ := Aside0.mk (Kd.R_below (by (with_reducible repeat (first | apply Kd.R_alloc | apply Kd.R_drewN | apply Kd.R_drew)); exact HO297.out) hb); have n2_ := Aside0.mk (IsS56.below (by repeat (first | (with_reducible first | exact HI283.out | apply IsS56.alloc | apply IsS56.drewN | apply IsS56.drew | apply IsS56.set_1 | refine IsS56.far ?_ NB283_291.out _ | refine IsS56.far ?_ NB283_299.out _) | exact HI283.out)) hb); have n3_ := Aside0.mk (blk_below (g := gb291) (o := .cells #[.int .i64 t284, .int .i64 t285, .int .i64 t286, .slice Ao12 t287.length co12] 26 (0, 0)) q107_ hb); have n4_ := Aside0.mk (blk_below (g := gb299) (o := .cells #[.int .i64 t292, .int .i64 t293, .int .i64 t294, .slice Ao18 t295.length co18] 26 (0, 0)) q108_ hb); have n5_ := Aside0.mk (below_step q28_ hb); have n6_ := Aside0.mk (hbox); have n7_ := Aside0.mk ((by rw [hg]; exact (below_size q28_) : w.heap.size ≤ gb305)); have n8_ := Aside0.mk ((by rw [hg]; exact (below_size q28_) : w.heap.size ≤ gb305)); have n9_ := Aside0.mk ((by rw [hg]; exact Nat.ne_of_lt (blk_lt (g := gb291) (o := .cells #[.int .i64 t284, .int .i64 t285, .int .i64 t286, .slice Ao12 t287.length co12] 26 (0, 0)) q107_) : gb291 ≠ gb305)); have n10_ := Aside0.mk ((by rw [hg]; exact Nat.ne_of_gt (blk_lt (g := gb291) (o := .cells #[.int .i64 t284, .int .i64 t285, .int .i64 t286, .slice Ao12 t287.length co12] 26 (0, 0)) q107_) : gb305 ≠ gb291)); have n11_ := Aside0.mk ((by rw [hg]; exact Nat.ne_of_lt (blk_lt (g := gb299) (o := .cells #[.int .i64 t292, .int .i64 t293, .int .i64 t294, .slice Ao18 t295.length co18] 26 (0, 0)) q108_) : gb299 ≠ gb305)); have n12_ := Aside0.mk ((by rw [hg]; exact Nat.ne_of_gt (blk_lt (g := gb299) (o := .cells #[.int .i64 t292, .int .i64 t293, .int .i64 t294, .slice Ao18 t295.length co18] 26 (0, 0)) q108_) : gb305 ≠ gb299)); have n13_ := Aside0.mk ((by rw [hg]; exact Nat.ne_of_lt (IsS56.lt (show IsS56 w _ g283 t281 t304 from by repeat (first | (with_reducible first | exact HI283.out | apply IsS56.alloc | apply IsS56.drewN | apply IsS56.drew | apply IsS56.set_1 | refine IsS56.far ?_ NB283_291.out _ | refine IsS56.far ?_ NB283_299.out _) | exact HI283.out))) : g283 ≠ gb305)); have n14_ := Aside0.mk ((by rw [hg]; exact Nat.ne_of_gt (IsS56.lt (show IsS56 w _ g283 t281 t304 from by repeat (first | (with_reducible first | exact HI283.out | apply IsS56.alloc | apply IsS56.drewN | apply IsS56.drew | apply IsS56.set_1 | refine IsS56.far ?_ NB283_291.out _ | refine IsS56.far ?_ NB283_299.out _) | exact HI283.out))) : gb305 ≠ g283)); clear HO289; clear HO297; clear HI283; clear BK291; clear BK299; clear HB; have HO289 := n0_; have HO297 := n1_; have HI283 := n2_; have BK291 := n3_; have BK299 := n4_; have HB := n5_; have BK305 := n6_; have GW305 := n7_; have GE305 := n8_; have NB291_305 := n9_; have NB305_291 := n10_; have NB299_305 := n11_; have NB305_299 := n12_; have NB283_305 := n13_; have NB305_283 := n14_; clear n0_ n1_ n2_ n3_ n4_ n5_ n6_ n7_ n8_ n9_ n10_ n11_ n12_ n13_ n14_; clear hb hbox hg; have hnb22 := NB305_291.out; have hnc22 := NB291_305.out; have hnb23 := NB305_299.out; have hnc23 := NB299_305.out; have hnb24 := NB305_283.out; have hnc24 := NB283_305.out; have hcz25_0 : w21.cell? ⟨gb305, 0, none⟩ = some (.int .i64 0) := (blk_cell BK305.out 0).trans rfl; have hcz25_1 : w21.cell? ⟨gb305, 1, none⟩ = some (.int .i64 0) := (blk_cell BK305.out 1).trans rfl; have hcz25_2 : w21.cell? ⟨gb305, 2, none⟩ = some (.int .i64 0) := (blk_cell BK305.out 2).trans rfl; have hcz25_3 : w21.cell? ⟨gb305, 3, none⟩ = some (.int .i64 0) := (blk_cell BK305.out 3).trans rfl; have hfz25_0 := blk_frozen BK305.out 0; have hfz25_1 := blk_frozen BK305.out 1; have hfz25_2 := blk_frozen BK305.out 2; have hfz25_3 := blk_frozen BK305.out 3; have hcz26_0 : w21.cell? ⟨gb299, 0, none⟩ = some (.int .i64 t292) := (blk_cell BK299.out 0).trans rfl; have hcz26_1 : w21.cell? ⟨gb299, 1, none⟩ = some (.int .i64 t293) := (blk_cell BK299.out 1).trans rfl; have hcz26_2 : w21.cell? ⟨gb299, 2, none⟩ = some (.int .i64 t294) := (blk_cell BK299.out 2).trans rfl; have hcz26_3 : w21.cell? ⟨gb299, 3, none⟩ = some (.slice Ao18 t295.length co18) := (blk_cell BK299.out 3).trans rfl; have hfz26_0 := blk_frozen BK299.out 0; have hfz26_1 := blk_frozen BK299.out 1; have hfz26_2 := blk_frozen BK299.out 2; have hfz26_3 := blk_frozen BK299.out 3) | ((with_reducible refine gate_callee (f := 13) rfl ?_); refine goesL_ (some 30) rfl rfl Try.func13 (by kernel_rfl) rfl #[.agg #[.int .i64 t292, .int .i64 t293, .int .i64 t294, .slice Ao18 t295.length co18], .agg #[.int .i64 t300, .int .i64 t301, .int .i64 t302, .int .i64 t303]] rfl q78_ ?_; (with_reducible refine (integral_Sum.calls k t292 t293 t294 _ _ t295 t300 t301 t302 t303 t306 t307 _ ?side1 ?side2 A6.out).mono ?_); (case side1 => refine (Kd.R_reads' (e := 3) (base := w.heap.size) (ok := fun k_ => (True ∧ some k_ ≠ (.slice Ao12 t287.length co12 : Value).ownBlock)) (n := t295.length) (c := co18) ?_).2.2; exact (by (with_reducible repeat (first | apply Kd.R_alloc | apply Kd.R_drewN | apply Kd.R_drew)); exact (Kd.R_mono (Kd.R_far (p := ⟨gb305, 3, none⟩) (Kd.R_far (p := ⟨gb305, 2, none⟩) (Kd.R_far (p := ⟨gb305, 1, none⟩) (Kd.R_far (p := ⟨gb305, 0, none⟩) (Kd.R_types HO297.out BK305.out (by decide)) (fun _ hk => hk.2) (.int .i64 t300)) (fun _ hk => hk.2) (.int .i64 t301)) (fun _ hk => hk.2) (.int .i64 t302)) (fun _ hk => hk.2) (.int .i64 t303)) (fun _ h_ => h_.1)))); (case side2 => exact (Kd.R_reads' HO297.out).2.1); rintro e w27 ⟨rfl, hb⟩; refine ⟨_, rfl, ?_⟩; have n0_ := Aside0.mk (Kd.R_below (by (with_reducible repeat (first | apply Kd.R_alloc | apply Kd.R_drewN | apply Kd.R_drew)); exact (Kd.R_mono (Kd.R_far (p := ⟨gb305, 3, none⟩) (Kd.R_far (p := ⟨gb305, 2, none⟩) (Kd.R_far (p := ⟨gb305, 1, none⟩) (Kd.R_far (p := ⟨gb305, 0, none⟩) (Kd.R_types HO289.out BK305.out (by decide)) (fun _ hk => hk.2) (.int .i64 t300)) (fun _ hk => hk.2) (.int .i64 t301)) (fun _ hk => hk.2) (.int .i64 t302)) (fun _ hk => hk.2) (.int .i64 t303)) (fun _ h_ => h_.1))) hb); have n1_ := Aside0.mk (Kd.R_below (by (with_reducible repeat (first | apply Kd.R_alloc | apply Kd.R_drewN | apply Kd.R_drew)); exact (Kd.R_mono (Kd.R_far (p := ⟨gb305, 3, none⟩) (Kd.R_far (p := ⟨gb305, 2, none⟩) (Kd.R_far (p := ⟨gb305, 1, none⟩) (Kd.R_far (p := ⟨gb305, 0, none⟩) (Kd.R_types HO297.out BK305.out (by decide)) (fun _ hk => hk.2) (.int .i64 t300)) (fun _ hk => hk.2) (.int .i64 t301)) (fun _ hk => hk.2) (.int .i64 t302)) (fun _ hk => hk.2) (.int .i64 t303)) (fun _ h_ => h_.1))) hb); have n2_ := Aside0.mk (IsS56.below (show IsS56 w ((((w21.setCell ⟨gb305, 0, none⟩ (.int .i64 t300)).setCell ⟨gb305, 1, none⟩ (.int .i64 t301)).setCell ⟨gb305, 2, none⟩ (.int .i64 t302)).setCell ⟨gb305, 3, none⟩ (.int .i64 t303)) g283 t281 t304 from by repeat (first | (with_reducible first | exact HI283.out | apply IsS56.alloc | apply IsS56.drewN | apply IsS56.drew | apply IsS56.set_1 | refine IsS56.far ?_ NB283_291.out _ | refine IsS56.far ?_ NB283_299.out _ | refine IsS56.far ?_ NB283_305.out _) | exact HI283.out)) hb); have n3_ := Aside0.mk (blk_below (g := gb291) (o := .cells #[.int .i64 t284, .int .i64 t285, .int .i64 t286, .slice Ao12 t287.length co12] 26 (0, 0)) (by (with_reducible repeat (first | refine blk_drewN ?_ _ | refine blk_drew ?_ | refine blk_alloc ?_ _)); refine blk_far ?_ NB291_305.out _; (with_reducible repeat (first | refine blk_drewN ?_ _ | refine blk_drew ?_ | refine blk_alloc ?_ _)); refine blk_far ?_ NB291_305.out _; (with_reducible repeat (first | refine blk_drewN ?_ _ | refine blk_drew ?_ | refine blk_alloc ?_ _)); refine blk_far ?_ NB291_305.out _; (with_reducible repeat (first | refine blk_drewN ?_ _ | refine blk_drew ?_ | refine blk_alloc ?_ _)); refine blk_far ?_ NB291_305.out _; (with_reducible repeat (first | refine blk_drewN ?_ _ | refine blk_drew ?_ | refine blk_alloc ?_ _)); exact BK291.out) hb); have n4_ := Aside0.mk (blk_below (g := gb299) (o := .cells #[.int .i64 t292, .int .i64 t293, .int .i64 t294, .slice Ao18 t295.length co18] 26 (0, 0)) (by (with_reducible repeat (first | refine blk_drewN ?_ _ | refine blk_drew ?_ | refine blk_alloc ?_ _)); refine blk_far ?_ NB299_305.out _; (with_reducible repeat (first | refine blk_drewN ?_ _ | refine blk_drew ?_ | refine blk_alloc ?_ _)); refine blk_far ?_ NB299_305.out _; (with_reducible repeat (first | refine blk_drewN ?_ _ | refine blk_drew ?_ | refine blk_alloc ?_ _)); refine blk_far ?_ NB299_305.out _; (with_reducible repeat (first | refine blk_drewN ?_ _ | refine blk_drew ?_ | refine blk_alloc ?_ _)); refine blk_far ?_ NB299_305.out _; (with_reducible repeat (first | refine blk_drewN ?_ _ | refine blk_drew ?_ | refine blk_alloc ?_ _)); exact BK299.out) hb); have n5_ := Aside0.mk (blk_below (g := gb305) (o := .cells #[.int .i64 t300, .int .i64 t301, .int .i64 t302, .int .i64 t303] 32 (0, 0)) (by (with_reducible repeat (first | refine blk_drewN ?_ _ | refine blk_drew ?_ | refine blk_alloc ?_ _)); refine blk_put (cs := #[.int .i64 t300, .int .i64 t301, .int .i64 t302, .int .i64 0]) ?_ 3 _ rfl; (with_reducible repeat (first | refine blk_drewN ?_ _ | refine blk_drew ?_ | refine blk_alloc ?_ _)); refine blk_put (cs := #[.int .i64 t300, .int .i64 t301, .int .i64 0, .int .i64 0]) ?_ 2 _ rfl; (with_reducible repeat (first | refine blk_drewN ?_ _ | refine blk_drew ?_ | refine blk_alloc ?_ _)); refine blk_put (cs := #[.int .i64 t300, .int .i64 0, .int .i64 0, .int .i64 0]) ?_ 1 _ rfl; (with_reducible repeat (first | refine blk_drewN ?_ _ | refine blk_drew ?_ | refine blk_alloc ?_ _)); refine blk_put (cs := #[.int .i64 0, .int .i64 0, .int .i64 0, .int .i64 0]) ?_ 0 _ rfl; (with_reducible repeat (first | refine blk_drewN ?_ _ | refine blk_drew ?_ | refine blk_alloc ?_ _)); exact BK305.out) hb); have n6_ := Aside0.mk (below_step (by repeat (first | (with_reducible first | exact HB.out | apply below_alloc | apply pw_below_drewN | apply below_drew1 | refine below_set ?_ (IsS56.ge HI283.out) | refine below_set ?_ GE291.out | refine below_set ?_ GE299.out | refine below_set ?_ GE305.out) | exact HB.out)) hb); clear HO289; clear HO297; clear HI283; clear BK291; clear BK299; clear BK305; clear HB; have HO289 := n0_; have HO297 := n1_; have HI283 := n2_; have BK291 := n3_; have BK299 := n4_; have BK305 := n5_; have HB := n6_; clear n0_ n1_ n2_ n3_ n4_ n5_ n6_; (try clear hb); (try clear hb2); (try clear hk); (try clear hi); have hcz28_0 : w27.cell? ⟨gb305, 0, none⟩ = some (.int .i64 t300) := (blk_cell BK305.out 0).trans rfl; have hcz28_1 : w27.cell? ⟨gb305, 1, none⟩ = some (.int .i64 t301) := (blk_cell BK305.out 1).trans rfl; have hcz28_2 : w27.cell? ⟨gb305, 2, none⟩ = some (.int .i64 t302) := (blk_cell BK305.out 2).trans rfl; have hcz28_3 : w27.cell? ⟨gb305, 3, none⟩ = some (.int .i64 t303) := (blk_cell BK305.out 3).trans rfl; have hfz28_0 := blk_frozen BK305.out 0; have hfz28_1 := blk_frozen BK305.out 1; have hfz28_2 := blk_frozen BK305.out 2; have hfz28_3 := blk_frozen BK305.out 3))
  go_loopg [8, 10] k (fun kq v8 v10 w' => ∃ (x8_1 : Int) (x10_1 : Int), v8 = .int .i64 x8_1 ∧ v10 = .int .i64 x10_1 ∧ Aside0 (tilefarmlaw13_IntegralSums.l0 kq t298 x8_1 t307 x10_1 t284 t285 t286 t287 t300 t301 t302 t303 = some r) ∧ Aside0 (kq ≤ k) ∧ Aside0 (Kd.R (Kd.int .i64) 3 w' w.heap.size (fun k_ => some k_ ≠ ((.slice Ao18 t295.length co18) : Value).ownBlock) (.slice Ao12 t287.length co12) t287) ∧ Aside0 (Kd.R (Kd.int .i64) 3 w' w.heap.size (fun k_ => some k_ ≠ ((.slice Ao12 t287.length co12) : Value).ownBlock) (.slice Ao18 t295.length co18) t295) ∧ Aside0 (w'.heap[gb291]? = some (.cells #[.int .i64 t284, .int .i64 t285, .int .i64 t286, (.slice Ao12 t287.length co12)] 26 (0, 0))) ∧ Aside0 (w'.heap[gb299]? = some (.cells #[.int .i64 t292, .int .i64 t293, .int .i64 t294, (.slice Ao18 t295.length co18)] 26 (0, 0))) ∧ Aside0 (w'.heap[gb305]? = some (.cells #[.int .i64 t300, .int .i64 t301, .int .i64 t302, .int .i64 t303] 32 (0, 0))) ∧ Aside0 (Below w.heap.size w w'))
  case atStart => exact ⟨(t306), (t301), q129_, q129_, H', ⟨Nat.le_refl _⟩, ⟨by (with_reducible repeat (first | apply Kd.R_alloc | apply Kd.R_drewN | apply Kd.R_drew)); exact Kd.R_mono HO289.out (fun _ hk => hk.2)⟩, ⟨by (with_reducible repeat (first | apply Kd.R_alloc | apply Kd.R_drewN | apply Kd.R_drew)); exact Kd.R_mono HO297.out (fun _ hk => hk.2)⟩, ⟨q107_⟩, ⟨q108_⟩, ⟨q109_⟩, ⟨by repeat (first | (with_reducible first | exact HB.out | apply below_alloc | apply pw_below_drewN | apply below_drew1 | refine below_set ?_ (IsS56.ge HI283.out) | refine below_set ?_ GE291.out | refine below_set ?_ GE299.out | refine below_set ?_ GE305.out) | exact HB.out)⟩⟩
  case round =>
    clear H'
    try clear c1
    try clear c2
    try clear p2
    try clear c6
    try clear c8
    try clear c9
    try clear c10
    try clear c11
    try clear c13
    try clear c15
    try clear c16
    try clear c22
    try clear c23
    try clear c24
    try clear hcz11_0
    try clear hcz11_1
    try clear hcz11_2
    try clear hcz11_3
    try clear hcz17_0
    try clear hcz17_1
    try clear hcz17_2
    try clear hcz17_3
    try clear hcz19_0
    try clear hcz19_1
    try clear hcz19_2
    try clear hcz19_3
    try clear hcz25_0
    try clear hcz25_1
    try clear hcz25_2
    try clear hcz25_3
    try clear hcz26_0
    try clear hcz26_1
    try clear hcz26_2
    try clear hcz26_3
    try clear hcz28_0
    try clear hcz28_1
    try clear hcz28_2
    try clear hcz28_3
    try clear hfz11_0
    try clear hfz11_1
    try clear hfz11_2
    try clear hfz11_3
    try clear hfz17_0
    try clear hfz17_1
    try clear hfz17_2
    try clear hfz17_3
    try clear hfz19_0
    try clear hfz19_1
    try clear hfz19_2
    try clear hfz19_3
    try clear hfz25_0
    try clear hfz25_1
    try clear hfz25_2
    try clear hfz25_3
    try clear hfz26_0
    try clear hfz26_1
    try clear hfz26_2
    try clear hfz26_3
    try clear hfz28_0
    try clear hfz28_1
    try clear hfz28_2
    try clear hfz28_3
    obtain ⟨x8_1, x10_1, rfl, rfl, HA, HK1, HO_292003, HO_300003, BK291, BK299, BK305, HB⟩ := hrel
    cases gk with
    | zero => exact absurd HA.out (by simp [tilefarmlaw13_IntegralSums.l0])
    | succ k1 =>
      have H := HA.out
      clear HA
      simp only [tilefarmlaw13_IntegralSums.l0] at H
      by_cases c29 : x10_1 < t303
      · rw [if_pos c29] at H
        have c29b0 : decide (x10_1 < t303) = true := decide_eq_true c29
        clear c29
        have H' := Aside0.mk H
        clear H
        have hnb30 := NB305_291.out
        have hnc30 := NB291_305.out
        have hnb31 := NB305_299.out
        have hnc31 := NB299_305.out
        have hcz32_0 : wr.cell? ⟨gb305, 0, none⟩ = some (.int .i64 t300) := (blk_cell BK305.out 0).trans rfl
        have hcz32_1 : wr.cell? ⟨gb305, 1, none⟩ = some (.int .i64 t301) := (blk_cell BK305.out 1).trans rfl
        have hcz32_2 : wr.cell? ⟨gb305, 2, none⟩ = some (.int .i64 t302) := (blk_cell BK305.out 2).trans rfl
        have hcz32_3 : wr.cell? ⟨gb305, 3, none⟩ = some (.int .i64 t303) := (blk_cell BK305.out 3).trans rfl
        have hfz32_0 := blk_frozen BK305.out 0
        have hfz32_1 := blk_frozen BK305.out 1
        have hfz32_2 := blk_frozen BK305.out 2
        have hfz32_3 := blk_frozen BK305.out 3
        go_wp2
        go_loopg [8, 11] k1 (fun kq v8 v11 w' => ∃ (x8_2 : Int) (x11_2 : Int), v8 = .int .i64 x8_2 ∧ v11 = .int .i64 x11_2 ∧ Aside0 (tilefarmlaw13_IntegralSums.l1 kq t298 x8_2 t307 x10_1 x11_2 t284 t285 t286 t287 t300 t301 t302 t303 = some r) ∧ Aside0 (kq ≤ k1) ∧ Aside0 (Kd.R (Kd.int .i64) 3 w' w.heap.size (fun k_ => some k_ ≠ ((.slice Ao18 t295.length co18) : Value).ownBlock) (.slice Ao12 t287.length co12) t287) ∧ Aside0 (Kd.R (Kd.int .i64) 3 w' w.heap.size (fun k_ => some k_ ≠ ((.slice Ao12 t287.length co12) : Value).ownBlock) (.slice Ao18 t295.length co18) t295) ∧ Aside0 (w'.heap[gb291]? = some (.cells #[.int .i64 t284, .int .i64 t285, .int .i64 t286, (.slice Ao12 t287.length co12)] 26 (0, 0))) ∧ Aside0 (w'.heap[gb299]? = some (.cells #[.int .i64 t292, .int .i64 t293, .int .i64 t294, (.slice Ao18 t295.length co18)] 26 (0, 0))) ∧ Aside0 (w'.heap[gb305]? = some (.cells #[.int .i64 t300, .int .i64 t301, .int .i64 t302, .int .i64 t303] 32 (0, 0))) ∧ Aside0 (Below w.heap.size w w'))
        case atStart => exact ⟨(x8_1), (t300), q129_, q129_, H', ⟨Nat.le_refl _⟩, ⟨q112_⟩, ⟨q113_⟩, ⟨q107_⟩, ⟨q108_⟩, ⟨q109_⟩, ⟨q33_⟩⟩
        case round =>
          clear H'
          try clear c1
          try clear c2
          try clear p2
          try clear c3
          try clear c6
          try clear c8
          try clear c9
          try clear c10
          try clear c11
          try clear c13
          try clear c15
          try clear c16
          try clear c22
          try clear c23
          try clear c24
          try clear c29
          try clear c29b0
          try clear c30
          try clear c31
          try clear hcz11_0
          try clear hcz11_1
          try clear hcz11_2
          try clear hcz11_3
          try clear hcz17_0
          try clear hcz17_1
          try clear hcz17_2
          try clear hcz17_3
          try clear hcz19_0
          try clear hcz19_1
          try clear hcz19_2
          try clear hcz19_3
          try clear hcz25_0
          try clear hcz25_1
          try clear hcz25_2
          try clear hcz25_3
          try clear hcz26_0
          try clear hcz26_1
          try clear hcz26_2
          try clear hcz26_3
          try clear hcz28_0
          try clear hcz28_1
          try clear hcz28_2
          try clear hcz28_3
          try clear hcz32_0
          try clear hcz32_1
          try clear hcz32_2
          try clear hcz32_3
          try clear hfz11_0
          try clear hfz11_1
          try clear hfz11_2
          try clear hfz11_3
          try clear hfz17_0
          try clear hfz17_1
          try clear hfz17_2
          try clear hfz17_3
          try clear hfz19_0
          try clear hfz19_1
          try clear hfz19_2
          try clear hfz19_3
          try clear hfz25_0
          try clear hfz25_1
          try clear hfz25_2
          try clear hfz25_3
          try clear hfz26_0
          try clear hfz26_1
          try clear hfz26_2
          try clear hfz26_3
          try clear hfz28_0
          try clear hfz28_1
          try clear hfz28_2
          try clear hfz28_3
          try clear hfz32_0
          try clear hfz32_1
          try clear hfz32_2
          try clear hfz32_3
          try clear p2
          obtain ⟨x8_2, x11_2, rfl, rfl, HA, HK2, HO_292003, HO_300003, BK291, BK299, BK305, HB⟩ := hrel
          cases gk with
          | zero => exact absurd HA.out (by simp [tilefarmlaw13_IntegralSums.l1])
          | succ k2 =>
            have H := HA.out
            clear HA
            simp only [tilefarmlaw13_IntegralSums.l1] at H
            by_cases c33 : x11_2 < t302
            · rw [if_pos c33] at H
              have c33b0 : decide (x11_2 < t302) = true := decide_eq_true c33
              clear c33
              obtain ⟨ji34, hji34⟩ : ∃ j_ : Int, (wrap64 ((wrap64 (x10_1 * t284)) + x11_2)) = j_ := ⟨_, rfl⟩
              replace H : (if 0 ≤ (ji34) then (if (ji34) < (t287.length : Int) then (tilefarmlaw13_IntegralSums.l1 k2 t298 (wrap64 (x8_2 - (rd t287 (ji34)))) t307 x10_1 (wrap64 (x11_2 + 1)) t284 t285 t286 t287 t300 t301 t302 t303) else (none)) else (none)) = some r := by first | (rw [hji34] at H; exact H) | (simp only [hji34] at H ⊢; exact H)
              have hji34w : (IntKind.i64.wrap ((wrap64 (x10_1 * t284)) + x11_2)) = ji34 := (i64_w _).trans hji34
              by_cases c35 : 0 ≤ (ji34)
              · rw [if_pos c35] at H
                have c35b0 : decide (0 ≤ (ji34)) = true := decide_eq_true c35
                clear c35
                by_cases c36 : (ji34) < (t287.length : Int)
                · rw [if_pos c36] at H
                  have c36b0 : decide ((ji34) < (t287.length : Int)) = true := decide_eq_true c36
                  clear c36
                  have H' := Aside0.mk H
                  clear H
                  have hnb37 := NB305_291.out
                  have hnc37 := NB291_305.out
                  have hnb38 := NB305_299.out
                  have hnc38 := NB299_305.out
                  have hcz39_0 : wr.cell? ⟨gb305, 0, none⟩ = some (.int .i64 t300) := (blk_cell BK305.out 0).trans rfl
                  have hcz39_1 : wr.cell? ⟨gb305, 1, none⟩ = some (.int .i64 t301) := (blk_cell BK305.out 1).trans rfl
                  have hcz39_2 : wr.cell? ⟨gb305, 2, none⟩ = some (.int .i64 t302) := (blk_cell BK305.out 2).trans rfl
                  have hcz39_3 : wr.cell? ⟨gb305, 3, none⟩ = some (.int .i64 t303) := (blk_cell BK305.out 3).trans rfl
                  have hfz39_0 := blk_frozen BK305.out 0
                  have hfz39_1 := blk_frozen BK305.out 1
                  have hfz39_2 := blk_frozen BK305.out 2
                  have hfz39_3 := blk_frozen BK305.out 3
                  have hnb40 := NB291_299.out
                  have hnc40 := NB299_291.out
                  have hcz41_0 : wr.cell? ⟨gb291, 0, none⟩ = some (.int .i64 t284) := (blk_cell BK291.out 0).trans rfl
                  have hcz41_1 : wr.cell? ⟨gb291, 1, none⟩ = some (.int .i64 t285) := (blk_cell BK291.out 1).trans rfl
                  have hcz41_2 : wr.cell? ⟨gb291, 2, none⟩ = some (.int .i64 t286) := (blk_cell BK291.out 2).trans rfl
                  have hcz41_3 : wr.cell? ⟨gb291, 3, none⟩ = some (.slice Ao12 t287.length co12) := (blk_cell BK291.out 3).trans rfl
                  have hfz41_0 := blk_frozen BK291.out 0
                  have hfz41_1 := blk_frozen BK291.out 1
                  have hfz41_2 := blk_frozen BK291.out 2
                  have hfz41_3 := blk_frozen BK291.out 3
                  have p309 : 0 ≤ ((ji34) : Int) := of_decide_eq_true q128_
                  have q309 : (ji34) < (t287.length : Int) := of_decide_eq_true q128_
                  obtain ⟨ad309, e309, hx309_0⟩ := Kd.at_int (Kd.R_reads' HO_292003.out).2.2 (ji34) p309 q309
                  cases e309
                  replace p309 := eq_true p309
                  replace q309 := eq_true q309
                  go_wp2
                  go_roundg k2
                  case measure => have := HK1.out; have := HK2.out; omega
                  case rel => exact ⟨(wrap64 (x8_2 - (rd t287 (ji34)))), (wrap64 (x11_2 + 1)), (by first | rfl | (simp; done) | (simp only [← hji34] <;> (first | rfl | simp)) | (simp [*]; done)), q129_, (by first | exact H' | ((try (rw [hji34])); exact H')), ⟨by have := HK1.out; have := HK2.out; omega⟩, ⟨q112_⟩, ⟨q113_⟩, ⟨q107_⟩, ⟨q108_⟩, ⟨q109_⟩, ⟨q33_⟩⟩
                · rw [if_neg c36] at H
                  exact absurd H (by simp)
              · rw [if_neg c35] at H
                exact absurd H (by simp)
            · rw [if_neg c33] at H
              have c33b0 : decide (x11_2 < t302) = false := decide_eq_false c33
              clear c33
              have H' := Aside0.mk H
              clear H
              have hnb42 := NB305_291.out
              have hnc42 := NB291_305.out
              have hnb43 := NB305_299.out
              have hnc43 := NB299_305.out
              have hcz44_0 : wr.cell? ⟨gb305, 0, none⟩ = some (.int .i64 t300) := (blk_cell BK305.out 0).trans rfl
              have hcz44_1 : wr.cell? ⟨gb305, 1, none⟩ = some (.int .i64 t301) := (blk_cell BK305.out 1).trans rfl
              have hcz44_2 : wr.cell? ⟨gb305, 2, none⟩ = some (.int .i64 t302) := (blk_cell BK305.out 2).trans rfl
              have hcz44_3 : wr.cell? ⟨gb305, 3, none⟩ = some (.int .i64 t303) := (blk_cell BK305.out 3).trans rfl
              have hfz44_0 := blk_frozen BK305.out 0
              have hfz44_1 := blk_frozen BK305.out 1
              have hfz44_2 := blk_frozen BK305.out 2
              have hfz44_3 := blk_frozen BK305.out 3
              go_wp2
              go_roundg k2
              case measure => have := HK1.out; have := HK2.out; omega
              case rel => exact ⟨(x8_2), (wrap64 (x10_1 + 1)), q129_, q129_, (by first | exact H' | ((try (rw [hji34])); exact H')), ⟨by have := HK1.out; have := HK2.out; omega⟩, ⟨q112_⟩, ⟨q113_⟩, ⟨q107_⟩, ⟨q108_⟩, ⟨q109_⟩, ⟨q33_⟩⟩
      · rw [if_neg c29] at H
        have c29b0 : decide (x10_1 < t303) = false := decide_eq_false c29
        clear c29
        by_cases c45 : t298 = 0
        · rw [if_pos c45] at H
          have c45b0 : (t298 == 0) = true := beq_iff_eq.mpr c45
          have c45b1 : (t298 != 0) = false := bne_eq_false_iff_eq.mpr c45
          clear c45
          by_cases c46 : t307 = 0
          · rw [if_pos c46] at H
            have c46b0 : (t307 == 0) = true := beq_iff_eq.mpr c46
            have c46b1 : (t307 != 0) = false := bne_eq_false_iff_eq.mpr c46
            clear c46
            by_cases c47 : x8_1 = 0
            · rw [if_pos c47] at H
              have c47b0 : (x8_1 == 0) = true := beq_iff_eq.mpr c47
              have c47b1 : (x8_1 != 0) = false := bne_eq_false_iff_eq.mpr c47
              clear c47
              replace H := Option.bind_eq_some_iff.mp H
              obtain ⟨t308, A480, H⟩ := H
              replace H : (some t308) = some r := H
              have A48 := Aside0.mk A480
              clear A480
              obtain rfl := Option.some.inj H
              have hnb49 := NB305_291.out
              have hnc49 := NB291_305.out
              have hnb50 := NB305_299.out
              have hnc50 := NB299_305.out
              have hcz51_0 : wr.cell? ⟨gb305, 0, none⟩ = some (.int .i64 t300) := (blk_cell BK305.out 0).trans rfl
              have hcz51_1 : wr.cell? ⟨gb305, 1, none⟩ = some (.int .i64 t301) := (blk_cell BK305.out 1).trans rfl
              have hcz51_2 : wr.cell? ⟨gb305, 2, none⟩ = some (.int .i64 t302) := (blk_cell BK305.out 2).trans rfl
              have hcz51_3 : wr.cell? ⟨gb305, 3, none⟩ = some (.int .i64 t303) := (blk_cell BK305.out 3).trans rfl
              have hfz51_0 := blk_frozen BK305.out 0
              have hfz51_1 := blk_frozen BK305.out 1
              have hfz51_2 := blk_frozen BK305.out 2
              have hfz51_3 := blk_frozen BK305.out 3
              go_wp2_with (first | (go_at_call 14; (with_reducible refine (tilefarmlaw13_sane.calls k1  t308 _ A48.out).mono ?_); rintro e w52 ⟨rfl, hb⟩; have n0_ := Aside0.mk (Kd.R_below q112_ hb); have n1_ := Aside0.mk (Kd.R_below q113_ hb); have n2_ := Aside0.mk (blk_below (g := gb291) (o := .cells #[.int .i64 t284, .int .i64 t285, .int .i64 t286, .slice Ao12 t287.length co12] 26 (0, 0)) q107_ hb); have n3_ := Aside0.mk (blk_below (g := gb299) (o := .cells #[.int .i64 t292, .int .i64 t293, .int .i64 t294, .slice Ao18 t295.length co18] 26 (0, 0)) q108_ hb); have n4_ := Aside0.mk (blk_below (g := gb305) (o := .cells #[.int .i64 t300, .int .i64 t301, .int .i64 t302, .int .i64 t303] 32 (0, 0)) q109_ hb); have n5_ := Aside0.mk (below_step q33_ hb); clear HO_292003; clear HO_300003; clear BK291; clear BK299; clear BK305; clear HB; have HO_292003 := n0_; have HO_300003 := n1_; have BK291 := n2_; have BK299 := n3_; have BK305 := n4_; have HB := n5_; clear n0_ n1_ n2_ n3_ n4_ n5_; (try clear hb); (try clear hb2); (try clear hk); (try clear hi)))
              go_ret
              exact ⟨q125_, q33_⟩
            · rw [if_neg c47] at H
              have c47b0 : (x8_1 == 0) = false := beq_eq_false_iff_ne.mpr c47
              have c47b1 : (x8_1 != 0) = true := bne_iff_ne.mpr c47
              exact absurd ((Option.some.inj H).trans HT.out) (by decide)
          · rw [if_neg c46] at H
            have c46b0 : (t307 == 0) = false := beq_eq_false_iff_ne.mpr c46
            have c46b1 : (t307 != 0) = true := bne_iff_ne.mpr c46
            exact absurd ((Option.some.inj H).trans HT.out) (by decide)
        · rw [if_neg c45] at H
          have c45b0 : (t298 == 0) = false := beq_eq_false_iff_ne.mpr c45
          have c45b1 : (t298 != 0) = true := bne_iff_ne.mpr c45
          exact absurd ((Option.some.inj H).trans HT.out) (by decide)


def tilefarmlaw13_IntegralSums.Pure : Prop := ∀ (l0 : List Int), l0.length ≤ maxLen → l0.length * 8 ≤ 140737488351232 → (∀ x ∈ l0, (Lit.int .i64 x).wf = true) → ∃ k, tilefarmlaw13_IntegralSums.f k l0 = some true
theorem tilefarmlaw13_IntegralSums.walk (P : tilefarmlaw13_IntegralSums.Pure) (a0 : Option Addr) (len0 cap0 : Nat) (z0 : List Int) (w : World) (w0 : (a0 = none ∧ len0 = 0 ∧ cap0 = 0 ∧ z0 = []) ∨ ∃ x, a0 = some x ∧ len0 ≤ cap0 ∧ cap0 ≤ maxLen ∧ z0.length = cap0 ∧ (∀ i, i < z0.length → w.cell? (x.add i) = some (.int .i64 (z0.getD i 0))) ∧ ∀ n ∈ z0, (Lit.int .i64 n).wf = true) (y0 : len0 * 8 ≤ 140737488351232) :
    Calls Try.prog 6 #[.slice a0 len0 cap0] w fun e w' => e = .returned (.bool true) ∧ Below w.heap.size w w' := by
  obtain ⟨l0, rfl, hr0, hm0, hw0, hc0⟩ := ReadsInt.ofRowC w0
  obtain ⟨k, h⟩ := P l0 hm0 y0 hw0
  refine (tilefarmlaw13_IntegralSums.calls k _ _ l0 true w (Kd.C_of_reads (d := (0 : Int)) (h1 := fun _ => rfl) hr0) hc0 h).mono ?_
  rintro e w' ⟨rfl, hd⟩
  exact ⟨rfl, hd⟩

end Go.Proofs.Ytkipnpgcpohlcaa.PIntegralSums
