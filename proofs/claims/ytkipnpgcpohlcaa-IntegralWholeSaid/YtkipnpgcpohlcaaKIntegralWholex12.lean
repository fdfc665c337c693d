-- Written by a program of the session (wip/tools/pack.py): the printed texts, pruned; checked by Lean.
import Derived.Test.YtkipnpgcpohlcaaKIntegralWholea
import Derived.Test.YtkipnpgcpohlcaaKIntegralWholex0
import Derived.Test.YtkipnpgcpohlcaaKIntegralWholex1
import Derived.Test.YtkipnpgcpohlcaaKIntegralWholex11
namespace Go.Proofs.Ytkipnpgcpohlcaa.PIntegralWhole
open Go.RowKit Go.Proofs.YtkipnpgcpohlcaaW.PrintWords Go.Proofs.YtkipnpgcpohlcaaW.PrintLast Go.Proofs.YtkipnpgcpohlcaaW.PrintMore
attribute [local go_sem] max2_int min2_int max_two min_two max_three min_three max_four min_four   -- for this text's walks alone
set_option linter.unusedVariables false
set_option linter.unusedSimpArgs false
attribute [local go_sem high] eqA32
mutual
def tilefarmref13_Whole.l0 : Nat → Int → Int → Int → Int → List Int → Int → Int → Int → List Int → Option (Int × Int × Int × List Int × Int)
 | 0, _, _, _, _, _, _, _, _, _ => none
 | k + 1, x8, x339000, x339001, x339002, x339003, x350000, x350001, x350002, x350003 => if x8 < x339001 then (tilefarmref13_Whole.l1 k x8 0 0 x339000 x339001 x339002 x339003 x350000 x350001 x350002 x350003) else (some (x350000, x350001, x350002, x350003, 0))
def tilefarmref13_Whole.l1 : Nat → Int → Int → Int → Int → Int → Int → List Int → Int → Int → Int → List Int → Option (Int × Int × Int × List Int × Int)
 | 0, _, _, _, _, _, _, _, _, _, _, _ => none
 | k + 1, x8, x9, x10, x339000, x339001, x339002, x339003, x350000, x350001, x350002, x350003 => if x10 < x339000 then (if 0 ≤ (wrap64 ((wrap64 (x8 * x339000)) + x10)) then (if (wrap64 ((wrap64 (x8 * x339000)) + x10)) < (x339003.length : Int) then (if (wrap64 ((wrap64 (x8 * x339000)) + x10)) < (x350003.length : Int) then ((some (x350003.set ((wrap64 ((wrap64 (x8 * x339000)) + x10)) : Int).toNat (wrap64 (x9 + (rd x339003 (wrap64 ((wrap64 (x8 * x339000)) + x10))))) : List Int)).bind fun y351 => (if x8 > 0 then (if 0 ≤ (wrap64 ((wrap64 ((wrap64 (x8 - 1)) * x339000)) + x10)) then (if (wrap64 ((wrap64 ((wrap64 (x8 - 1)) * x339000)) + x10)) < (x350003.length : Int) then (tilefarmref13_Whole.l1 k x8 (wrap64 (x9 + (rd x339003 (wrap64 ((wrap64 (x8 * x339000)) + x10))))) (wrap64 (x10 + 1)) x339000 x339001 x339002 x339003 x350000 x350001 x350002 (y351.set ((wrap64 ((wrap64 (x8 * x339000)) + x10)) : Int).toNat (wrap64 ((rd y351 (wrap64 ((wrap64 (x8 * x339000)) + x10))) + (rd y351 (wrap64 ((wrap64 ((wrap64 (x8 - 1)) * x339000)) + x10))))))) else (none)) else (none)) else (tilefarmref13_Whole.l1 k x8 (wrap64 (x9 + (rd x339003 (wrap64 ((wrap64 (x8 * x339000)) + x10))))) (wrap64 (x10 + 1)) x339000 x339001 x339002 x339003 x350000 x350001 x350002 y351))) else (none)) else (none)) else (none)) else (tilefarmref13_Whole.l0 k (wrap64 (x8 + 1)) x339000 x339001 x339002 x339003 x350000 x350001 x350002 x350003)
end
def tilefarmref13_Whole.f (k : Nat) (a0_0 : Int) (a0_1 : Int) (a0_2 : Int) (l0_3 : List Int) : Option (Int × Int × Int × List Int × Int) := (tilefarmref13_check.f k a0_0 a0_1 a0_2 l0_3).bind fun bt340 => (if bt340.2 = 0 then ((tilefarmref4_New.f a0_0 a0_1 bt340.1).bind fun bt342 => (tilefarmref13_Whole.l0 k 0 a0_0 a0_1 a0_2 l0_3 bt342.1 bt342.2.1 bt342.2.2.1 bt342.2.2.2.1)) else (some (0, 0, 0, ([] : List Int), bt340.2)))
theorem tilefarmref13_Whole.mono_l : ∀ k, (∀ y0 y1 y2 y3 y4 y5 y6 y7 y8, LeO (tilefarmref13_Whole.l0 k y0 y1 y2 y3 y4 y5 y6 y7 y8) (tilefarmref13_Whole.l0 (k + 1) y0 y1 y2 y3 y4 y5 y6 y7 y8)) ∧ (∀ y0 y1 y2 y3 y4 y5 y6 y7 y8 y9 y10, LeO (tilefarmref13_Whole.l1 k y0 y1 y2 y3 y4 y5 y6 y7 y8 y9 y10) (tilefarmref13_Whole.l1 (k + 1) y0 y1 y2 y3 y4 y5 y6 y7 y8 y9 y10))
 | 0 => ⟨fun _ _ _ _ _ _ _ _ _ r h => by simp [tilefarmref13_Whole.l0] at h, fun _ _ _ _ _ _ _ _ _ _ _ r h => by simp [tilefarmref13_Whole.l1] at h⟩
 | k + 1 => by
  obtain ⟨ih0, ih1⟩ := tilefarmref13_Whole.mono_l k; refine ⟨?_, ?_⟩
  ·intro y0 y1 y2 y3 y4 y5 y6 y7 y8
   unfold tilefarmref13_Whole.l0
   repeat' first
   | (with_reducible exact ih0 _ _ _ _ _ _ _ _ _)
   | (with_reducible exact ih1 _ _ _ _ _ _ _ _ _ _ _)
   | (with_reducible exact tilefarmref13_check.mono _ _ _ _ _)
   | (with_reducible exact LeO.refl _)
   | (with_reducible exact LeO.none _)
   | (with_reducible refine LeO.ite ?_ ?_)
   | (with_reducible refine LeO.bind ?_ (fun _ => ?_))
   | exact ih0 _ _ _ _ _ _ _ _ _
   | exact ih1 _ _ _ _ _ _ _ _ _ _ _
   | exact tilefarmref13_check.mono _ _ _ _ _
   | exact LeO.none _
   | refine LeO.ite ?_ ?_
   | refine LeO.bind ?_ (fun _ => ?_)
  ·intro y0 y1 y2 y3 y4 y5 y6 y7 y8 y9 y10
   unfold tilefarmref13_Whole.l1
   repeat' first
   | (with_reducible exact ih0 _ _ _ _ _ _ _ _ _)
   | (with_reducible exact ih1 _ _ _ _ _ _ _ _ _ _ _)
   | (with_reducible exact tilefarmref13_check.mono _ _ _ _ _)
   | (with_reducible exact LeO.refl _)
   | (with_reducible exact LeO.none _)
   | (with_reducible refine LeO.ite ?_ ?_)
   | (with_reducible refine LeO.bind ?_ (fun _ => ?_))
   | exact ih0 _ _ _ _ _ _ _ _ _
   | exact ih1 _ _ _ _ _ _ _ _ _ _ _
   | exact tilefarmref13_check.mono _ _ _ _ _
   | exact LeO.none _
   | refine LeO.ite ?_ ?_
   | refine LeO.bind ?_ (fun _ => ?_)
theorem tilefarmref13_Whole.mono : ∀ a0 a1 a2 a3 k, LeO (tilefarmref13_Whole.f k a0 a1 a2 a3) (tilefarmref13_Whole.f (k + 1) a0 a1 a2 a3) := by
 intro a0 a1 a2 a3 k; obtain ⟨ih0, ih1⟩ := tilefarmref13_Whole.mono_l k; unfold tilefarmref13_Whole.f
 repeat' first
   | (with_reducible exact ih0 _ _ _ _ _ _ _ _ _)
   | (with_reducible exact ih1 _ _ _ _ _ _ _ _ _ _ _)
   | (with_reducible exact tilefarmref13_check.mono _ _ _ _ _)
   | (with_reducible exact LeO.refl _)
   | (with_reducible exact LeO.none _)
   | (with_reducible refine LeO.ite ?_ ?_)
   | (with_reducible refine LeO.bind ?_ (fun _ => ?_))
   | exact ih0 _ _ _ _ _ _ _ _ _
   | exact ih1 _ _ _ _ _ _ _ _ _ _ _
   | exact tilefarmref13_check.mono _ _ _ _ _
   | exact LeO.none _
   | refine LeO.ite ?_ ?_
   | refine LeO.bind ?_ (fun _ => ?_)
def tilefarmref13_Whole.T15 : Bool × List (List Nat × List Nat) := (true, [([], []), ([0], [0]), ([], []), ([], []), ([3], [3]), ([2, 4], [2, 4]), ([], []), ([5, 6], [5, 6]), ([1, 7], [1, 7]), ([8], [8]), ([], []), ([10], [10]), ([], []), ([12], [12]), ([], []), ([14], [14]), ([13, 15], [13, 15]), ([], []), ([16, 17], [16, 17]), ([11, 18], [11, 18]), ([19], [19]), ([9, 20], [9, 20]), ([1, 7, 0, 1, 2, 3, 4, 5, 6, 7, 8, 9, 10, 11, 12, 13, 14, 15, 16, 17, 18, 19, 20, 21], [1, 7]), ([22, 21, 0, 1, 2, 3, 4, 5, 6, 7, 8, 9, 10, 11, 12, 13, 14, 15, 16, 17, 18, 19, 20, 21], [21, 22])])
def tilefarmref13_Whole.B15 : List Nat := [0, 1, 0, 0, 8, 28, 0, 124, 255, 511, 0, 1024, 0, 4096, 0, 16384, 61440, 0, 258048, 523264, 1047552, 2097151, 4194303, 8388607]
theorem tilefarmref13_Whole.tab15 : rtab .any (opsOf Try.f19 15) = tilefarmref13_Whole.T15 := by kernel_rfl
theorem tilefarmref13_Whole.bits15 : waitsOk tilefarmref13_Whole.T15.2 tilefarmref13_Whole.B15 = true := by kernel_rfl
set_option maxHeartbeats 8000000 in
set_option maxRecDepth 100000 in
theorem tilefarmref13_Whole.calls (k : Nat) (a0_0 : Int) (a0_1 : Int) (a0_2 : Int) (A0_3 : Option Addr) (c0_3 : Nat) (l0_3 : List Int) (r1 : Int) (r2 : Int) (r3 : Int) (r4 : List Int) (r5 : Int) (w : World) (hr0_3 : Kd.C (Kd.int .i64) w A0_3 l0_3.length l0_3) (hc0_3 : l0_3.length ≤ c0_3) (h : tilefarmref13_Whole.f k a0_0 a0_1 a0_2 l0_3 = some (r1, r2, r3, r4, r5)) :
  Calls Try.prog 19 #[.agg #[.int .i64 a0_0, .int .i64 a0_1, .int .i64 a0_2, .slice A0_3 l0_3.length c0_3]] w fun e w' => ∃ v3_ : Value, e = .returned (.tuple #[.agg #[.int .i64 r1, .int .i64 r2, .int .i64 r3, v3_], .int .i64 r5]) ∧ Kd.R (Kd.int .i64) 3 w' w.heap.size (fun _ => True) v3_ r4 ∧ Below w.heap.size w w' := by
 have hu26 := Try.underlying26; have HR0_3 := am_ hr0_3; have HC0_3 := am_ hc0_3; clear hr0_3 hc0_3; have HB := am_ (Below.refl w.heap.size w); have H : ((tilefarmref13_check.f k a0_0 a0_1 a0_2 l0_3).bind fun bt340 => (if bt340.2 = 0 then ((tilefarmref4_New.f a0_0 a0_1 bt340.1).bind fun bt342 => (tilefarmref13_Whole.l0 k 0 a0_0 a0_1 a0_2 l0_3 bt342.1 bt342.2.1 bt342.2.2.1 bt342.2.2.2.1)) else (some (0, 0, 0, ([] : List Int), bt340.2)))) = some (r1, r2, r3, r4, r5) := h; clear h; replace H := Option.bind_eq_some_iff.mp H; obtain ⟨⟨t340, t341⟩, A20, H⟩ := H; replace H : (if t341 = 0 then ((tilefarmref4_New.f a0_0 a0_1 t340).bind fun bt342 => (tilefarmref13_Whole.l0 k 0 a0_0 a0_1 a0_2 l0_3 bt342.1 bt342.2.1 bt342.2.2.1 bt342.2.2.2.1)) else (some (0, 0, 0, ([] : List Int), t341))) = some (r1, r2, r3, r4, r5) := H; have A2 := am_ A20; clear A20
 by_cases c3 : t341 = 0
 ·rw [if_pos c3] at H
  have c3b0 : (t341 == 0) = true := beq_iff_eq.mpr c3; have c3b1 : (t341 != 0) = false := bne_eq_false_iff_eq.mpr c3; clear c3; replace H := Option.bind_eq_some_iff.mp H; obtain ⟨⟨t342, t343, t344, t345, t348⟩, A40, H⟩ := H; replace H : (tilefarmref13_Whole.l0 k 0 a0_0 a0_1 a0_2 l0_3 t342 t343 t344 t345) = some (r1, r2, r3, r4, r5) := H; have A4 := am_ A40; clear A40; have H' := am_ H; clear H
  go_enter Try.func19, Try.ntmps19
  go_wp2_with (first | ((with_reducible refine gate_dst (N := 1) rfl ?_); refine box_event ?hg (N := 1) ?hd (cs := #[.int .i64 a0_0, .int .i64 a0_1, .int .i64 a0_2, .slice A0_3 l0_3.length c0_3]) (t := 26) ?hr ?_; (case hd => rfl); (case hg => rfl); (case hr => first | (go_simp; done) | (go_simp; rfl)); intro gb338 hg w5 hbox hb; have n0_ := am_ (below_step q143_ hb); have n1_ := am_ (hbox); have n2_ := am_ ((q108_ : w.heap.size ≤ gb338)); have n3_ := am_ ((q108_ : w.heap.size ≤ gb338)); clear HB; have HB := n0_; have BK338 := n1_; have GW338 := n2_; have GE338 := n3_; clear n0_ n1_ n2_ n3_; clear hb hbox hg) | ((with_reducible refine gate_dst (N := 2) rfl ?_); refine box_event ?hg (N := 2) ?hd (cs := #[.int .i64 0, .int .i64 0, .int .i64 0, .slice none 0 0]) (t := 26) ?hr ?_; (case hd => rfl); (case hg => rfl); (case hr => first | (go_simp; done) | (go_simp; rfl)); intro gb339 hg w6 hbox hb; have n0_ := am_ (blk_below (g := gb338) (o := .cells #[.int .i64 a0_0, .int .i64 a0_1, .int .i64 a0_2, .slice A0_3 l0_3.length c0_3] 26 (0, 0)) q174_ hb); have n1_ := am_ (below_step q126_ hb); have n2_ := am_ (hbox); have n3_ := am_ ((q86_ : w.heap.size ≤ gb339)); have n4_ := am_ ((q86_ : w.heap.size ≤ gb339)); have n5_ := am_ ((q25_ : gb338 ≠ gb339)); have n6_ := am_ ((q26_ : gb339 ≠ gb338)); clear BK338 HB; have BK338 := n0_; have HB := n1_; have BK339 := n2_; have GW339 := n3_; have GE339 := n4_; have NB338_339 := n5_; have NB339_338 := n6_; clear n0_ n1_ n2_ n3_ n4_ n5_ n6_; clear hb hbox hg; have hnb7 := NB338_339.out; have hnc7 := NB339_338.out; have hcz8_0 := bc0_ BK338.out; have hcz8_1 := bc1_ BK338.out; have hcz8_2 := bc2_ BK338.out; have hcz8_3 := bc3_ BK338.out; have hfz8_0 := blk_frozen BK338.out 0; have hfz8_1 := blk_frozen BK338.out 1; have hfz8_2 := blk_frozen BK338.out 2; have hfz8_3 := blk_frozen BK338.out 3) | ((with_reducible refine gate_callee (f := 37) rfl ?_); refine goesL_ (some 13) rfl rfl Try.func37 (by kernel_rfl) rfl #[.agg #[.int .i64 a0_0, .int .i64 a0_1, .int .i64 a0_2, .slice A0_3 l0_3.length c0_3]] rfl q140_ ?_; (with_reducible refine (tilefarmref13_check.calls k a0_0 a0_1 a0_2 _ _ l0_3 t340 t341 _ ?side1 ?side2 A2.out).mono ?_); (case side1 => repeat (first | exact (Kd.C_below HR0_3.out HB.out) | (with_reducible refine Kd.C_alloc ?_ _) | (with_reducible refine Kd.C_drewN ?_ _) | (with_reducible refine Kd.C_drew ?_))); (case side2 => exact HC0_3.out); rintro e w9 ⟨rfl, hb⟩; refine ⟨_, rfl, ?_⟩; have n0_ := am_ (blk_below (g := gb338) (o := .cells #[.int .i64 a0_0, .int .i64 a0_1, .int .i64 a0_2, .slice A0_3 l0_3.length c0_3] 26 (0, 0)) q174_ hb); have n1_ := am_ (blk_below (g := gb339) (o := .cells #[.int .i64 0, .int .i64 0, .int .i64 0, .slice none 0 0] 26 (0, 0)) q175_ hb); have n2_ := am_ (below_step q96_ hb); clear BK338 BK339 HB; have BK338 := n0_; have BK339 := n1_; have HB := n2_; clear n0_ n1_ n2_; (try clear hb); (try clear hb2); (try clear hk); (try clear hi); have hcz10_0 := bc0_ BK338.out; have hcz10_1 := bc1_ BK338.out; have hcz10_2 := bc2_ BK338.out; have hcz10_3 := bc3_ BK338.out; have hfz10_0 := blk_frozen BK338.out 0; have hfz10_1 := blk_frozen BK338.out 1; have hfz10_2 := blk_frozen BK338.out 2; have hfz10_3 := blk_frozen BK338.out 3) | ((with_reducible refine gate_callee (f := 38) rfl ?_); refine goesL_ (some 26) rfl rfl Try.func38 (by kernel_rfl) rfl #[.int .i64 a0_0, .int .i64 a0_1, .int .i64 t340] rfl q140_ ?_; (with_reducible refine (tilefarmref4_New.calls a0_0 a0_1 t340 t342 t343 t344 t345 t348 _ A4.out).mono ?_); rintro e w11 ⟨v346, rfl, ho0, hb⟩; refine ⟨_, rfl, ?_⟩; have n0_ := am_ (Kd.R_lower ho0 (below_size q96_)); have n1_ := am_ (blk_below (g := gb338) (o := .cells #[.int .i64 a0_0, .int .i64 a0_1, .int .i64 a0_2, .slice A0_3 l0_3.length c0_3] 26 (0, 0)) q174_ hb); have n2_ := am_ (blk_below (g := gb339) (o := .cells #[.int .i64 0, .int .i64 0, .int .i64 0, .slice none 0 0] 26 (0, 0)) q175_ hb); have n3_ := am_ (below_step q96_ hb); clear BK338 BK339 HB; have HO347 := n0_; have BK338 := n1_; have BK339 := n2_; have HB := n3_; clear n0_ n1_ n2_ n3_; (try clear hb); (try clear hb2); (try clear hk); (try clear hi); (try clear ho0)) | ((with_reducible refine gate_dst (N := 6) rfl ?_); refine box_event ?hg (N := 6) ?hd (cs := #[.int .i64 0, .int .i64 0, .int .i64 0, .slice none 0 0]) (t := 26) ?hr ?_; (case hd => rfl); (case hg => rfl); (case hr => first | (go_simp; done) | (go_simp; rfl)); intro gb349 hg w12 hbox hb; have n0_ := am_ (Kd.R_below (by (with_reducible repeat (first | apply Kd.R_alloc | apply Kd.R_drewN | apply Kd.R_drew)); exact HO347.out) hb); have n1_ := am_ (blk_below (g := gb338) (o := .cells #[.int .i64 a0_0, .int .i64 a0_1, .int .i64 a0_2, .slice A0_3 l0_3.length c0_3] 26 (0, 0)) q174_ hb); have n2_ := am_ (blk_below (g := gb339) (o := .cells #[.int .i64 0, .int .i64 0, .int .i64 0, .slice none 0 0] 26 (0, 0)) q175_ hb); have n3_ := am_ (below_step q96_ hb); have n4_ := am_ (hbox); have n5_ := am_ ((by rw [hg]; exact (below_size q96_) : w.heap.size ≤ gb349)); have n6_ := am_ ((by rw [hg]; exact (below_size q96_) : w.heap.size ≤ gb349)); have n7_ := am_ ((q25_ : gb338 ≠ gb349)); have n8_ := am_ ((q26_ : gb349 ≠ gb338)); have n9_ := am_ ((by rw [hg]; exact Nat.ne_of_lt (blk_lt (g := gb339) (o := .cells #[.int .i64 0, .int .i64 0, .int .i64 0, .slice none 0 0] 26 (0, 0)) q175_) : gb339 ≠ gb349)); have n10_ := am_ ((by rw [hg]; exact Nat.ne_of_gt (blk_lt (g := gb339) (o := .cells #[.int .i64 0, .int .i64 0, .int .i64 0, .slice none 0 0] 26 (0, 0)) q175_) : gb349 ≠ gb339)); clear HO347 BK338 BK339 HB; have HO347 := n0_; have BK338 := n1_; have BK339 := n2_; have HB := n3_; have BK349 := n4_; have GW349 := n5_; have GE349 := n6_; have NB338_349 := n7_; have NB349_338 := n8_; have NB339_349 := n9_; have NB349_339 := n10_; clear n0_ n1_ n2_ n3_ n4_ n5_ n6_ n7_ n8_ n9_ n10_; clear hb hbox hg; have hnb13 := NB349_338.out; have hnc13 := NB338_349.out; have hnb14 := NB349_339.out; have hnc14 := NB339_349.out; have hcz15_0 := bc0_ BK349.out; have hcz15_1 := bc1_ BK349.out; have hcz15_2 := bc2_ BK349.out; have hcz15_3 := bc3_ BK349.out; have hfz15_0 := blk_frozen BK349.out 0; have hfz15_1 := blk_frozen BK349.out 1; have hfz15_2 := blk_frozen BK349.out 2; have hfz15_3 := blk_frozen BK349.out 3; obtain ⟨Ao16, co16, eo16⟩ := Kd.R_slice HO347.out; subst eo16))
  go_loopg [8] k (fun kq v8 w' => ∃ (x8_1 : Int) (x350003_1 : List Int) (u350003 : Value), v8 = .int .i64 x8_1 ∧ Aside0 (tilefarmref13_Whole.l0 kq x8_1 a0_0 a0_1 a0_2 l0_3 t342 t343 t344 x350003_1 = some (r1, r2, r3, r4, r5)) ∧ Aside0 (kq ≤ k) ∧ Aside0 (Kd.R (Kd.int .i64) 3 w' w.heap.size (fun _ => True) u350003 x350003_1) ∧ Aside0 (w'.heap[gb338]? = some (.cells #[.int .i64 a0_0, .int .i64 a0_1, .int .i64 a0_2, (.slice A0_3 l0_3.length c0_3)] 26 (0, 0))) ∧ Aside0 (w'.heap[gb339]? = some (.cells #[.int .i64 0, .int .i64 0, .int .i64 0, (.slice none 0 0)] 26 (0, 0))) ∧ Aside0 (w'.heap[gb349]? = some (.cells #[.int .i64 t342, .int .i64 t343, .int .i64 t344, u350003] 26 (0, 0))) ∧ Aside0 (Below w.heap.size w w'))
  case atStart => exact ⟨(0), (t345), (.slice Ao16 t345.length co16), q217_, H', ⟨Nat.le_refl _⟩, ⟨by (with_reducible repeat (first | apply Kd.R_alloc | apply Kd.R_drewN | apply Kd.R_drew)); exact Kd.R_mono (Kd.R_far (p := ⟨gb349, 3, none⟩) (Kd.R_far (p := ⟨gb349, 2, none⟩) (Kd.R_far (p := ⟨gb349, 1, none⟩) (Kd.R_far (p := ⟨gb349, 0, none⟩) (Kd.R_types HO347.out BK349.out (by decide)) (fun _ hk => hk.2) (.int .i64 t342)) (fun _ hk => hk.2) (.int .i64 t343)) (fun _ hk => hk.2) (.int .i64 t344)) (fun _ hk => hk.2) (.slice Ao16 t345.length co16)) (fun _ hk => trivial)⟩, ⟨by (with_reducible repeat (first | refine blk_drewN ?_ _ | refine blk_drew ?_ | refine blk_alloc ?_ _)); refine blk_far ?_ NB338_349.out _; (with_reducible repeat (first | refine blk_drewN ?_ _ | refine blk_drew ?_ | refine blk_alloc ?_ _)); refine blk_far ?_ NB338_349.out _; (with_reducible repeat (first | refine blk_drewN ?_ _ | refine blk_drew ?_ | refine blk_alloc ?_ _)); refine blk_far ?_ NB338_349.out _; (with_reducible repeat (first | refine blk_drewN ?_ _ | refine blk_drew ?_ | refine blk_alloc ?_ _)); refine blk_far ?_ NB338_349.out _; (with_reducible repeat (first | refine blk_drewN ?_ _ | refine blk_drew ?_ | refine blk_alloc ?_ _)); exact BK338.out⟩, ⟨by (with_reducible repeat (first | refine blk_drewN ?_ _ | refine blk_drew ?_ | refine blk_alloc ?_ _)); refine blk_far ?_ NB339_349.out _; (with_reducible repeat (first | refine blk_drewN ?_ _ | refine blk_drew ?_ | refine blk_alloc ?_ _)); refine blk_far ?_ NB339_349.out _; (with_reducible repeat (first | refine blk_drewN ?_ _ | refine blk_drew ?_ | refine blk_alloc ?_ _)); refine blk_far ?_ NB339_349.out _; (with_reducible repeat (first | refine blk_drewN ?_ _ | refine blk_drew ?_ | refine blk_alloc ?_ _)); refine blk_far ?_ NB339_349.out _; (with_reducible repeat (first | refine blk_drewN ?_ _ | refine blk_drew ?_ | refine blk_alloc ?_ _)); exact BK339.out⟩, ⟨by (with_reducible repeat (first | refine blk_drewN ?_ _ | refine blk_drew ?_ | refine blk_alloc ?_ _)); refine blk_put (cs := #[.int .i64 t342, .int .i64 t343, .int .i64 t344, .slice none 0 0]) ?_ 3 _ rfl; (with_reducible repeat (first | refine blk_drewN ?_ _ | refine blk_drew ?_ | refine blk_alloc ?_ _)); refine blk_put (cs := #[.int .i64 t342, .int .i64 t343, .int .i64 0, .slice none 0 0]) ?_ 2 _ rfl; (with_reducible repeat (first | refine blk_drewN ?_ _ | refine blk_drew ?_ | refine blk_alloc ?_ _)); refine blk_put (cs := #[.int .i64 t342, .int .i64 0, .int .i64 0, .slice none 0 0]) ?_ 1 _ rfl; (with_reducible repeat (first | refine blk_drewN ?_ _ | refine blk_drew ?_ | refine blk_alloc ?_ _)); refine blk_put (cs := #[.int .i64 0, .int .i64 0, .int .i64 0, .slice none 0 0]) ?_ 0 _ rfl; (with_reducible repeat (first | refine blk_drewN ?_ _ | refine blk_drew ?_ | refine blk_alloc ?_ _)); exact BK349.out⟩, ⟨q69_⟩⟩
  case round =>
   clear H'; (try clear c1); (try clear p2); (try clear c3); (try clear c3b0); (try clear c3b1); (try clear c7); (try clear c13); (try clear c14); (try clear hcz10_0 hcz10_1 hcz10_2 hcz10_3); (try clear hcz15_0 hcz15_1 hcz15_2 hcz15_3); (try clear hcz8_0 hcz8_1 hcz8_2 hcz8_3); (try clear hfz10_0 hfz10_1 hfz10_2 hfz10_3); (try clear hfz15_0 hfz15_1 hfz15_2 hfz15_3); (try clear hfz8_0 hfz8_1 hfz8_2 hfz8_3); obtain ⟨x8_1, x350003_1, u350003, rfl, HA, HK1, HO_350003, BK338, BK339, BK349, HB⟩ := hrel; cases gk with
   | zero => exact absurd HA.out (by simp [tilefarmref13_Whole.l0])
   | succ k1 =>
    have H := HA.out; clear HA; simp only [tilefarmref13_Whole.l0] at H
    by_cases c17 : x8_1 < a0_1
    ·rw [if_pos c17] at H
     have c17b0 : decide (x8_1 < a0_1) = true := decide_eq_true c17; clear c17; have H' := am_ H; clear H; have hnb18 := NB338_339.out; have hnc18 := NB339_338.out; have hnb19 := NB338_349.out; have hnc19 := NB349_338.out; have hcz20_0 := bc0_ BK338.out; have hcz20_1 := bc1_ BK338.out; have hcz20_2 := bc2_ BK338.out; have hcz20_3 := bc3_ BK338.out; have hfz20_0 := blk_frozen BK338.out 0; have hfz20_1 := blk_frozen BK338.out 1; have hfz20_2 := blk_frozen BK338.out 2; have hfz20_3 := blk_frozen BK338.out 3
     go_wp2
     go_loopg [9, 10] k1 (fun kq v9 v10 w' => ∃ (x9_2 : Int) (x10_2 : Int) (x350003_2 : List Int) (u350003 : Value), v9 = .int .i64 x9_2 ∧ v10 = .int .i64 x10_2 ∧ Aside0 (tilefarmref13_Whole.l1 kq x8_1 x9_2 x10_2 a0_0 a0_1 a0_2 l0_3 t342 t343 t344 x350003_2 = some (r1, r2, r3, r4, r5)) ∧ Aside0 (kq ≤ k1) ∧ Aside0 (Kd.R (Kd.int .i64) 3 w' w.heap.size (fun _ => True) u350003 x350003_2) ∧ Aside0 (w'.heap[gb338]? = some (.cells #[.int .i64 a0_0, .int .i64 a0_1, .int .i64 a0_2, (.slice A0_3 l0_3.length c0_3)] 26 (0, 0))) ∧ Aside0 (w'.heap[gb339]? = some (.cells #[.int .i64 0, .int .i64 0, .int .i64 0, (.slice none 0 0)] 26 (0, 0))) ∧ Aside0 (w'.heap[gb349]? = some (.cells #[.int .i64 t342, .int .i64 t343, .int .i64 t344, u350003] 26 (0, 0))) ∧ Aside0 (Below w.heap.size w w'))
     case atStart => exact ⟨(0), (0), (x350003_1), (u350003), q217_, q217_, H', ⟨Nat.le_refl _⟩, ⟨q193_⟩, ⟨q174_⟩, ⟨q175_⟩, ⟨q176_⟩, ⟨q69_⟩⟩
     case round =>
      clear H'; (try clear c1); (try clear p2); (try clear c3); (try clear c3b0); (try clear c3b1); (try clear c7); (try clear c13); (try clear c14); (try clear c17); (try clear c17b0); (try clear c18); (try clear c19); (try clear hcz10_0 hcz10_1 hcz10_2 hcz10_3); (try clear hcz15_0 hcz15_1 hcz15_2 hcz15_3); (try clear hcz20_0 hcz20_1 hcz20_2 hcz20_3); (try clear hcz8_0 hcz8_1 hcz8_2 hcz8_3); (try clear hfz10_0 hfz10_1 hfz10_2 hfz10_3); (try clear hfz15_0 hfz15_1 hfz15_2 hfz15_3); (try clear hfz20_0 hfz20_1 hfz20_2 hfz20_3); (try clear hfz8_0 hfz8_1 hfz8_2 hfz8_3); (try clear p2); obtain ⟨x9_2, x10_2, x350003_2, u350003, rfl, rfl, HA, HK2, HO_350003, BK338, BK339, BK349, HB⟩ := hrel; cases gk with
      | zero => exact absurd HA.out (by simp [tilefarmref13_Whole.l1])
      | succ k2 =>
       have H := HA.out; clear HA; simp only [tilefarmref13_Whole.l1] at H
       by_cases c21 : x10_2 < a0_0
       ·rw [if_pos c21] at H
        have c21b0 : decide (x10_2 < a0_0) = true := decide_eq_true c21; clear c21; obtain ⟨ji22, hji22⟩ : ∃ j_ : Int, (wrap64 ((wrap64 (x8_1 * a0_0)) + x10_2)) = j_ := ⟨_, rfl⟩; replace H : (if 0 ≤ (ji22) then (if (ji22) < (l0_3.length : Int) then (if (ji22) < (x350003_2.length : Int) then ((some (x350003_2.set ((ji22) : Int).toNat (wrap64 (x9_2 + (rd l0_3 (ji22)))) : List Int)).bind fun y351 => (if x8_1 > 0 then (if 0 ≤ (wrap64 ((wrap64 ((wrap64 (x8_1 - 1)) * a0_0)) + x10_2)) then (if (wrap64 ((wrap64 ((wrap64 (x8_1 - 1)) * a0_0)) + x10_2)) < (x350003_2.length : Int) then (tilefarmref13_Whole.l1 k2 x8_1 (wrap64 (x9_2 + (rd l0_3 (ji22)))) (wrap64 (x10_2 + 1)) a0_0 a0_1 a0_2 l0_3 t342 t343 t344 (y351.set ((ji22) : Int).toNat (wrap64 ((rd y351 (ji22)) + (rd y351 (wrap64 ((wrap64 ((wrap64 (x8_1 - 1)) * a0_0)) + x10_2))))))) else (none)) else (none)) else (tilefarmref13_Whole.l1 k2 x8_1 (wrap64 (x9_2 + (rd l0_3 (ji22)))) (wrap64 (x10_2 + 1)) a0_0 a0_1 a0_2 l0_3 t342 t343 t344 y351))) else (none)) else (none)) else (none)) = some (r1, r2, r3, r4, r5) := by first | (rw [hji22] at H; exact H) | (simp only [hji22] at H ⊢; exact H)
        have hji22w : (IntKind.i64.wrap ((wrap64 (x8_1 * a0_0)) + x10_2)) = ji22 := (i64_w _).trans hji22
        by_cases c23 : 0 ≤ (ji22)
        ·rw [if_pos c23] at H
         have c23b0 : decide (0 ≤ (ji22)) = true := decide_eq_true c23; clear c23
         by_cases c24 : (ji22) < (l0_3.length : Int)
         ·rw [if_pos c24] at H
          have c24b0 : decide ((ji22) < (l0_3.length : Int)) = true := decide_eq_true c24; clear c24
          by_cases c25 : (ji22) < (x350003_2.length : Int)
          ·rw [if_pos c25] at H
           have c25b0 : decide ((ji22) < (x350003_2.length : Int)) = true := decide_eq_true c25; clear c25; obtain ⟨y351, hy351⟩ : ∃ y_ : List Int, y_ = (x350003_2.set ((ji22) : Int).toNat (wrap64 (x9_2 + (rd l0_3 (ji22))))) := ⟨_, rfl⟩; replace H : (if x8_1 > 0 then (if 0 ≤ (wrap64 ((wrap64 ((wrap64 (x8_1 - 1)) * a0_0)) + x10_2)) then (if (wrap64 ((wrap64 ((wrap64 (x8_1 - 1)) * a0_0)) + x10_2)) < (x350003_2.length : Int) then (tilefarmref13_Whole.l1 k2 x8_1 (wrap64 (x9_2 + (rd l0_3 (ji22)))) (wrap64 (x10_2 + 1)) a0_0 a0_1 a0_2 l0_3 t342 t343 t344 (y351.set ((ji22) : Int).toNat (wrap64 ((rd y351 (ji22)) + (rd y351 (wrap64 ((wrap64 ((wrap64 (x8_1 - 1)) * a0_0)) + x10_2))))))) else (none)) else (none)) else (tilefarmref13_Whole.l1 k2 x8_1 (wrap64 (x9_2 + (rd l0_3 (ji22)))) (wrap64 (x10_2 + 1)) a0_0 a0_1 a0_2 l0_3 t342 t343 t344 y351)) = some (r1, r2, r3, r4, r5) := by first | (rw [hy351]; with_reducible exact H) | (have H2_ := (Option.bind_some _ _).symm.trans H; rw [hy351]; with_reducible exact H2_) | (have H2_ := (Option.bind_some _ _).symm.trans H; with_reducible exact H2_) | with_reducible exact H | (rw [hy351]; exact H) | exact H
           have Ny351 := am_ hy351; clear hy351
           by_cases c27 : x8_1 > 0
           ·rw [if_pos c27] at H
            have c27b0 : decide (0 < x8_1) = true := decide_eq_true c27; clear c27; obtain ⟨ji28, hji28⟩ : ∃ j_ : Int, (wrap64 ((wrap64 ((wrap64 (x8_1 - 1)) * a0_0)) + x10_2)) = j_ := ⟨_, rfl⟩; replace H : (if 0 ≤ (ji28) then (if (ji28) < (x350003_2.length : Int) then (tilefarmref13_Whole.l1 k2 x8_1 (wrap64 (x9_2 + (rd l0_3 (ji22)))) (wrap64 (x10_2 + 1)) a0_0 a0_1 a0_2 l0_3 t342 t343 t344 (y351.set ((ji22) : Int).toNat (wrap64 ((rd y351 (ji22)) + (rd y351 (ji28)))))) else (none)) else (none)) = some (r1, r2, r3, r4, r5) := by first | (rw [hji28] at H; exact H) | (simp only [hji28] at H ⊢; exact H)
            have hji28w : (IntKind.i64.wrap ((wrap64 ((wrap64 (x8_1 - 1)) * a0_0)) + x10_2)) = ji28 := (i64_w _).trans hji28
            by_cases c29 : 0 ≤ (ji28)
            ·rw [if_pos c29] at H
             have c29b0 : decide (0 ≤ (ji28)) = true := decide_eq_true c29; clear c29
             by_cases c30 : (ji28) < (x350003_2.length : Int)
             ·rw [if_pos c30] at H
              have c30b0 : decide ((ji28) < (x350003_2.length : Int)) = true := decide_eq_true c30; clear c30; obtain ⟨y354, hy354⟩ : ∃ y_ : List Int, y_ = (y351.set ((ji22) : Int).toNat (wrap64 ((rd y351 (ji22)) + (rd y351 (ji28))))) := ⟨_, rfl⟩; replace H : (tilefarmref13_Whole.l1 k2 x8_1 (wrap64 (x9_2 + (rd l0_3 (ji22)))) (wrap64 (x10_2 + 1)) a0_0 a0_1 a0_2 l0_3 t342 t343 t344 y354) = some (r1, r2, r3, r4, r5) := by first | (rw [hy354]; with_reducible exact H) | (have H2_ := (Option.bind_some _ _).symm.trans H; rw [hy354]; with_reducible exact H2_) | (have H2_ := (Option.bind_some _ _).symm.trans H; with_reducible exact H2_) | with_reducible exact H | (rw [hy354]; exact H) | exact H
              have Ny354 := am_ hy354; clear hy354; have H' := am_ H; clear H; have hnb32 := NB338_339.out; have hnc32 := NB339_338.out; have hnb33 := NB338_349.out; have hnc33 := NB349_338.out; have hcz34_0 := bc0_ BK338.out; have hcz34_1 := bc1_ BK338.out; have hcz34_2 := bc2_ BK338.out; have hcz34_3 := bc3_ BK338.out; have hfz34_0 := blk_frozen BK338.out 0; have hfz34_1 := blk_frozen BK338.out 1; have hfz34_2 := blk_frozen BK338.out 2; have hfz34_3 := blk_frozen BK338.out 3; have p350 : 0 ≤ ((ji22) : Int) := of_decide_eq_true q216_; have q350 : (ji22) < (l0_3.length : Int) := of_decide_eq_true q216_; obtain ⟨ad350, e350, hx350_0⟩ := Kd.at_int HR0_3.out (ji22) p350 q350; cases e350; replace hx350_0 := (HB.out.cell (World.block_lt_of_cell? w _ hx350_0)).trans hx350_0; replace p350 := eq_true p350; replace q350 := eq_true q350; have hnb35 := NB349_339.out; have hnc35 := NB339_349.out; have hcz36_0 := bc0_ BK349.out; have hcz36_1 := bc1_ BK349.out; have hcz36_2 := bc2_ BK349.out; have hcz36_3 := bc3_ BK349.out; have hfz36_0 := blk_frozen BK349.out 0; have hfz36_1 := blk_frozen BK349.out 1; have hfz36_2 := blk_frozen BK349.out 2; have hfz36_3 := blk_frozen BK349.out 3; have p26 : 0 ≤ ((ji22) : Int) := of_decide_eq_true q216_; have q26 : ((ji22) : Int) < ((x350003_2.length : Int) : Int) := of_decide_eq_true q216_; obtain ⟨go26, co26, eo26, gb26, gl26, cl26, HG26⟩ := Kd.R_form HO_350003.out (by omega); (first | cases eo26 | (injection eo26 with ea_ en_ ec_; (first | subst ea_ | (injection ea_ with ea_; subst ea_)); subst ec_; clear en_)); have GB26 := am_ gb26; have GG26 := am_ HG26; clear gb26 gl26 HG26; obtain ⟨hx26_0, hf26_0⟩ := Kd.R_celln 0 HO_350003.out ((ji22) : Int) p26 q26; replace p26 := eq_true p26; replace q26 := eq_true q26; have HP37 := Kd.R_putg HO_350003.out ((ji22) : Int) (wrap64 (x9_2 + (rd l0_3 (ji22))))
              try go_wp2_with (first | ((with_reducible refine gate_store (t := 3) (p := 62) rfl ?_); refine store_event (t := 3) (p := 62) (v := ?vo_w38) (w1 := (wr.setCell ⟨go26, ((ji22) : Int).toNat, none⟩ (.int .i64 (wrap64 (x9_2 + (rd l0_3 (ji22))))))) ?hg ?ho ?hn ?hr ?_; (case ho => rfl); (case hg => rfl); (case hn => rfl); (case hr => first | (go_simp; done) | (go_simp; rfl)); intro w38 hw; have hg : wr.grownBy w38 (some go26) := (by rw [hw]; exact HP37.2); have hp_ : Kd.R (Kd.int .i64) 3 w38 w.heap.size (fun _ => True) (.slice (some ⟨go26, 0, none⟩) x350003_2.length co26) y351 := (by rw [hw, Ny351.out]; exact HP37.1); clear HP37; have n0_ := am_ (hp_); have n1_ := am_ (blk_grown (g := gb338) (o := .cells #[.int .i64 a0_0, .int .i64 a0_1, .int .i64 a0_2, .slice (some ad350) l0_3.length c0_3] 26 (0, 0)) q174_ hg (Kd.R_ne HO_350003.out BK338.out (by decide))); have n2_ := am_ (blk_grown (g := gb339) (o := .cells #[.int .i64 0, .int .i64 0, .int .i64 0, .slice none 0 0] 26 (0, 0)) q175_ hg (Kd.R_ne HO_350003.out BK339.out (by decide))); have n3_ := am_ (blk_grown (g := gb349) (o := .cells #[.int .i64 t342, .int .i64 t343, .int .i64 t344, .slice (some ⟨go26, 0, none⟩) x350003_2.length co26] 26 (0, 0)) q176_ hg (Kd.R_ne HO_350003.out BK349.out (by decide))); have n4_ := am_ ((by rw [hw]; exact below_set (HB.out) GB26.out : Below w.heap.size w w38)); clear HO_350003 BK338 BK339 BK349 HB; have HO_350003 := n0_; have BK338 := n1_; have BK339 := n2_; have BK349 := n3_; have HB := n4_; clear n0_ n1_ n2_ n3_ n4_; clear hg hw hp_))
              have n0_ := am_ (Kd.R_drew HO_350003.out); have n1_ := am_ (blk_drew BK338.out); have n2_ := am_ (blk_drew BK339.out); have n3_ := am_ (blk_drew BK349.out); have n4_ := am_ (below_drew1 HB.out); clear HO_350003 BK338 BK339 BK349 HB; have HO_350003 := n0_; have BK338 := n1_; have BK339 := n2_; have BK349 := n3_; have HB := n4_; clear n0_ n1_ n2_ n3_ n4_; have p352 : 0 ≤ ((ji22) : Int) := of_decide_eq_true q216_; have q352 : (ji22) < (y351.length : Int) := (by have h_ : ((ji22) : Int) < ((x350003_2.length : Int) : Int) := of_decide_eq_true q216_; first | (have e_ := (Kd.R_reads' HO_350003.out).1; omega) | simpa only [Ny351.out, List.length_set] using h_); have ql352 : (((ji22) : Int) < ((x350003_2.length : Int) : Int)) = True := eq_true (of_decide_eq_true q216_); obtain ⟨ad352, e352, hx352_0⟩ := Kd.at_int (Kd.R_reads' HO_350003.out).2.2 (ji22) p352 q352; obtain rfl : (⟨go26, 0, none⟩ : Addr) = ad352 := (by injection e352); (first | simp only [add_plain] at hx352_0 | simp only [add_at] at hx352_0 | simp only [Addr.add, Nat.zero_add] at hx352_0 | skip); replace p352 := eq_true p352; replace q352 := eq_true q352; have p353 : 0 ≤ ((ji28) : Int) := of_decide_eq_true q216_; have q353 : (ji28) < (y351.length : Int) := (by have h_ : ((ji28) : Int) < ((x350003_2.length : Int) : Int) := of_decide_eq_true q216_; first | (have e_ := (Kd.R_reads' HO_350003.out).1; omega) | simpa only [Ny351.out, List.length_set] using h_); have ql353 : (((ji28) : Int) < ((x350003_2.length : Int) : Int)) = True := eq_true (of_decide_eq_true q216_); obtain ⟨ad353, e353, hx353_0⟩ := Kd.at_int (Kd.R_reads' HO_350003.out).2.2 (ji28) p353 q353; obtain rfl : (⟨go26, 0, none⟩ : Addr) = ad353 := (by injection e353); (first | simp only [add_plain] at hx353_0 | simp only [add_at] at hx353_0 | simp only [Addr.add, Nat.zero_add] at hx353_0 | skip); replace p353 := eq_true p353; replace q353 := eq_true q353; have p31 : 0 ≤ ((ji22) : Int) := of_decide_eq_true q216_; have q31 : ((ji22) : Int) < ((x350003_2.length : Int) : Int) := of_decide_eq_true q216_; obtain ⟨hx31_0, hf31_0⟩ := Kd.R_celln 0 HO_350003.out ((ji22) : Int) p31 q31; replace p31 := eq_true p31; replace q31 := eq_true q31; have HP40 := Kd.R_putn HO_350003.out ((ji22) : Int) (wrap64 ((rd y351 (ji22)) + (rd y351 (ji28)))); rw [← Ny354.out] at HP40; have HQ40 := am_ HP40; clear HP40; refine start_ (n := 24) (S := fun w' => w'.cell? ⟨gb349, 0, none⟩ = some (.int .i64 t342) ∧ w'.cell? ⟨gb349, 1, none⟩ = some (.int .i64 t343) ∧ w'.cell? ⟨gb349, 2, none⟩ = some (.int .i64 t344) ∧ w'.cell? ⟨gb349, 3, none⟩ = some (.slice (some ⟨go26, 0, none⟩) x350003_2.length co26) ∧ w'.cell? ⟨gb338, 0, none⟩ = some (.int .i64 a0_0) ∧ w'.cell? ⟨gb338, 1, none⟩ = some (.int .i64 a0_1) ∧ w'.cell? ⟨gb338, 2, none⟩ = some (.int .i64 a0_2) ∧ w'.cell? ⟨gb338, 3, none⟩ = some (.slice (some ad350) l0_3.length c0_3) ∧ w'.cell? ⟨go26, ((ji22)).toNat, none⟩ = some (.int .i64 (rd y351 (ji22))) ∧ w'.cell? ⟨go26, ((ji28)).toNat, none⟩ = some (.int .i64 (rd y351 (ji28)))) (ds := [23]) #[F_, F_, F_, F_, F_, F_, F_, F_, F_, F_, F_, F_, F_, F_, F_, F_, F_, F_, F_, F_, F_, F_, F_, F_] (by kernel_rfl) rfl rfl ⟨bc0_ BK349.out, bc1_ BK349.out, bc2_ BK349.out, bc3_ BK349.out, bc0_ BK338.out, bc1_ BK338.out, bc2_ BK338.out, bc3_ BK338.out, hx352_0, hx353_0⟩ (fun hHeld => ?_); refine with_tabW tilefarmref13_Whole.tab15 tilefarmref13_Whole.bits15 (fun HT_ HW_ => ?_); generalize w38.drew = w39 at HO_350003 BK338 BK339 BK349 HB HQ40 hf31_0 hx31_0 hx352_0 hx353_0 hHeld ⊢; refine pure_ (i := 0) (N := some 65) (v := ?_) (a' := ?_) #[T_, F_, F_, F_, F_, F_, F_, F_, F_, F_, F_, F_, F_, F_, F_, F_, F_, F_, F_, F_, F_, F_, F_, F_] rfl rfl (any_of HT_.out (by kernel_rfl)) (fun _ _ _ h => h) (Or.inl ⟨by rfl, ?_⟩) ?_ ?_; rotate_left
              ·intro w'
               go_simp
               with_reducible rfl
              rotate_left
              ·simp only [Act.put, la_, lz_, ls_, i64_w, i32_w]
               rfl
              refine pure_ (i := 2) (N := some 67) (v := ?_) (a' := ?_) #[T_, F_, T_, F_, F_, F_, F_, F_, F_, F_, F_, F_, F_, F_, F_, F_, F_, F_, F_, F_, F_, F_, F_, F_] rfl rfl (any_of HT_.out (by kernel_rfl)) (fun _ _ _ h => h) (Or.inl ⟨by rfl, ?_⟩) ?_ ?_; rotate_left
              ·intro w'
               go_simp
               with_reducible rfl
              rotate_left
              ·simp only [Act.put, la_, lz_, ls_, i64_w, i32_w]
               rfl
              refine pure_ (i := 3) (N := some 68) (v := ?_) (a' := ?_) #[T_, F_, T_, T_, F_, F_, F_, F_, F_, F_, F_, F_, F_, F_, F_, F_, F_, F_, F_, F_, F_, F_, F_, F_] rfl rfl (any_of HT_.out (by kernel_rfl)) (fun _ _ _ h => h) (Or.inl ⟨by rfl, ?_⟩) ?_ ?_; rotate_left
              ·intro w'
               go_simp
               with_reducible rfl
              rotate_left
              ·simp only [Act.put, la_, lz_, ls_, i64_w, i32_w]
               rfl
              refine pure_ (i := 6) (N := some 71) (v := ?_) (a' := ?_) #[T_, F_, T_, T_, F_, F_, T_, F_, F_, F_, F_, F_, F_, F_, F_, F_, F_, F_, F_, F_, F_, F_, F_, F_] rfl rfl (any_of HT_.out (by kernel_rfl)) (fun _ _ _ h => h) (Or.inl ⟨by rfl, ?_⟩) ?_ ?_; rotate_left
              ·intro w'
               go_simp
               with_reducible rfl
              rotate_left
              ·simp only [Act.put, la_, lz_, ls_, i64_w, i32_w]
               rfl
              refine pure_ (i := 10) (N := some 75) (v := ?_) (a' := ?_) #[T_, F_, T_, T_, F_, F_, T_, F_, F_, F_, T_, F_, F_, F_, F_, F_, F_, F_, F_, F_, F_, F_, F_, F_] rfl rfl (any_of HT_.out (by kernel_rfl)) (fun _ _ _ h => h) (Or.inl ⟨by rfl, ?_⟩) ?_ ?_; rotate_left
              ·intro w'
               go_simp
               with_reducible rfl
              rotate_left
              ·simp only [Act.put, la_, lz_, ls_, i64_w, i32_w]
               rfl
              refine pure_ (i := 12) (N := some 77) (v := ?_) (a' := ?_) #[T_, F_, T_, T_, F_, F_, T_, F_, F_, F_, T_, F_, T_, F_, F_, F_, F_, F_, F_, F_, F_, F_, F_, F_] rfl rfl (any_of HT_.out (by kernel_rfl)) (fun _ _ _ h => h) (Or.inl ⟨by rfl, ?_⟩) ?_ ?_; rotate_left
              ·intro w'
               go_simp
               with_reducible rfl
              rotate_left
              ·simp only [Act.put, la_, lz_, ls_, i64_w, i32_w]
               rfl
              refine pure_ (i := 13) (N := some 78) (v := ?_) (a' := ?_) #[T_, F_, T_, T_, F_, F_, T_, F_, F_, F_, T_, F_, T_, T_, F_, F_, F_, F_, F_, F_, F_, F_, F_, F_] rfl rfl (any_of HT_.out (by kernel_rfl)) (fun _ _ _ h => h) (Or.inl ⟨by rfl, ?_⟩) ?_ ?_; rotate_left
              ·intro w'
               go_simp
               with_reducible rfl
              rotate_left
              ·simp only [Act.put, la_, lz_, ls_, i64_w, i32_w]
               rfl
              refine pure_ (i := 14) (N := some 79) (v := ?_) (a' := ?_) #[T_, F_, T_, T_, F_, F_, T_, F_, F_, F_, T_, F_, T_, T_, T_, F_, F_, F_, F_, F_, F_, F_, F_, F_] rfl rfl (any_of HT_.out (by kernel_rfl)) (fun _ _ _ h => h) (Or.inl ⟨by rfl, ?_⟩) ?_ ?_; rotate_left
              ·intro w'
               go_simp
               with_reducible rfl
              rotate_left
              ·simp only [Act.put, la_, lz_, ls_, i64_w, i32_w]
               rfl
              refine pure_ (i := 17) (N := some 82) (v := ?_) (a' := ?_) #[T_, F_, T_, T_, F_, F_, T_, F_, F_, F_, T_, F_, T_, T_, T_, F_, F_, T_, F_, F_, F_, F_, F_, F_] rfl rfl (any_of HT_.out (by kernel_rfl)) (fun _ _ _ h => h) (Or.inl ⟨by rfl, ?_⟩) ?_ ?_; rotate_left
              ·intro w'
               go_simp
               with_reducible rfl
              rotate_left
              ·simp only [Act.put, la_, lz_, ls_, i64_w, i32_w]
               rfl
              refine take_ (i := 1) (N := some 66) (v := ?_) (a' := ?_) #[T_, T_, T_, T_, F_, F_, T_, F_, F_, F_, T_, F_, T_, T_, T_, F_, F_, T_, F_, F_, F_, F_, F_, F_] rfl rfl (take_ofW HT_.out HW_.out (by kernel_rfl)) (fun _ _ _ h => h) (Or.inl ⟨by rfl, ?_⟩) hHeld ?_ ?_; rotate_left
              ·rintro w' ⟨s0, s1, s2, s3, s4, s5, s6, s7, s8, s9⟩
               go_simp
               with_reducible rfl
              rotate_left
              ·simp only [Act.put, la_, lz_, ls_, i64_w, i32_w]
               rfl
              refine take_ (i := 4) (N := some 69) (v := ?_) (a' := ?_) #[T_, T_, T_, T_, T_, F_, T_, F_, F_, F_, T_, F_, T_, T_, T_, F_, F_, T_, F_, F_, F_, F_, F_, F_] rfl rfl (take_ofW HT_.out HW_.out (by kernel_rfl)) (fun _ _ _ h => h) (Or.inl ⟨by rfl, ?_⟩) hHeld ?_ ?_; rotate_left
              ·rintro w' ⟨s0, s1, s2, s3, s4, s5, s6, s7, s8, s9⟩
               go_simp
               with_reducible rfl
              rotate_left
              ·simp only [Act.put, la_, lz_, ls_, i64_w, i32_w]
               rfl
              refine pure_ (i := 5) (N := some 70) (v := ?_) (a' := ?_) #[T_, T_, T_, T_, T_, T_, T_, F_, F_, F_, T_, F_, T_, T_, T_, F_, F_, T_, F_, F_, F_, F_, F_, F_] rfl rfl (any_of HT_.out (by kernel_rfl)) (fun _ _ _ h => h) (Or.inl ⟨by rfl, ?_⟩) ?_ ?_; rotate_left
              ·intro w'
               go_simp
               with_reducible rfl
              rotate_left
              ·simp only [Act.put, la_, lz_, ls_, i64_w, i32_w]
               rfl
              refine pure_ (i := 7) (N := some 72) (v := ?_) (a' := ?_) #[T_, T_, T_, T_, T_, T_, T_, T_, F_, F_, T_, F_, T_, T_, T_, F_, F_, T_, F_, F_, F_, F_, F_, F_] rfl rfl (any_of HT_.out (by kernel_rfl)) (fun _ _ _ h => h) (Or.inl ⟨by rfl, ?_⟩) ?_ ?_; rotate_left
              ·intro w'
               go_simp
               with_reducible rfl
              rotate_left
              ·simp only [Act.put, la_, lz_, ls_, i64_w, i32_w]
               rfl
              refine pure_ (i := 8) (N := some 73) (v := ?_) (a' := ?_) #[T_, T_, T_, T_, T_, T_, T_, T_, T_, F_, T_, F_, T_, T_, T_, F_, F_, T_, F_, F_, F_, F_, F_, F_] rfl rfl (any_of HT_.out (by kernel_rfl)) (fun _ _ _ h => h) (Or.inl ⟨by rfl, ?_⟩) ?_ ?_; rotate_left
              ·intro w'
               go_simp
               with_reducible rfl
              rotate_left
              ·simp only [Act.put, la_, lz_, ls_, i64_w, i32_w]
               rfl
              refine take_ (i := 9) (N := some 74) (v := ?_) (a' := ?_) #[T_, T_, T_, T_, T_, T_, T_, T_, T_, T_, T_, F_, T_, T_, T_, F_, F_, T_, F_, F_, F_, F_, F_, F_] rfl rfl (take_ofW HT_.out HW_.out (by kernel_rfl)) (fun _ _ _ h => h) (Or.inl ⟨by rfl, ?_⟩) hHeld ?_ ?_; rotate_left
              ·rintro w' ⟨s0, s1, s2, s3, s4, s5, s6, s7, s8, s9⟩
               go_simp
               with_reducible rfl
              rotate_left
              ·simp only [Act.put, la_, lz_, ls_, i64_w, i32_w]
               rfl
              refine take_ (i := 11) (N := some 76) (v := ?_) (a' := ?_) #[T_, T_, T_, T_, T_, T_, T_, T_, T_, T_, T_, T_, T_, T_, T_, F_, F_, T_, F_, F_, F_, F_, F_, F_] rfl rfl (take_ofW HT_.out HW_.out (by kernel_rfl)) (fun _ _ _ h => h) (Or.inl ⟨by rfl, ?_⟩) hHeld ?_ ?_; rotate_left
              ·rintro w' ⟨s0, s1, s2, s3, s4, s5, s6, s7, s8, s9⟩
               go_simp
               with_reducible rfl
              rotate_left
              ·simp only [Act.put, la_, lz_, ls_, i64_w, i32_w]
               rfl
              refine take_ (i := 15) (N := some 80) (v := ?_) (a' := ?_) #[T_, T_, T_, T_, T_, T_, T_, T_, T_, T_, T_, T_, T_, T_, T_, T_, F_, T_, F_, F_, F_, F_, F_, F_] rfl rfl (take_ofW HT_.out HW_.out (by kernel_rfl)) (fun _ _ _ h => h) (Or.inl ⟨by rfl, ?_⟩) hHeld ?_ ?_; rotate_left
              ·rintro w' ⟨s0, s1, s2, s3, s4, s5, s6, s7, s8, s9⟩
               go_simp
               with_reducible rfl
              rotate_left
              ·simp only [Act.put, la_, lz_, ls_, i64_w, i32_w]
               rfl
              refine pure_ (i := 16) (N := some 81) (v := ?_) (a' := ?_) #[T_, T_, T_, T_, T_, T_, T_, T_, T_, T_, T_, T_, T_, T_, T_, T_, T_, T_, F_, F_, F_, F_, F_, F_] rfl rfl (any_of HT_.out (by kernel_rfl)) (fun _ _ _ h => h) (Or.inl ⟨by rfl, ?_⟩) ?_ ?_; rotate_left
              ·intro w'
               go_simp
               with_reducible rfl
              rotate_left
              ·simp only [Act.put, la_, lz_, ls_, i64_w, i32_w]
               rfl
              refine pure_ (i := 18) (N := some 83) (v := ?_) (a' := ?_) #[T_, T_, T_, T_, T_, T_, T_, T_, T_, T_, T_, T_, T_, T_, T_, T_, T_, T_, T_, F_, F_, F_, F_, F_] rfl rfl (any_of HT_.out (by kernel_rfl)) (fun _ _ _ h => h) (Or.inl ⟨by rfl, ?_⟩) ?_ ?_; rotate_left
              ·intro w'
               go_simp
               with_reducible rfl
              rotate_left
              ·simp only [Act.put, la_, lz_, ls_, i64_w, i32_w]
               rfl
              refine pure_ (i := 19) (N := some 84) (v := ?_) (a' := ?_) #[T_, T_, T_, T_, T_, T_, T_, T_, T_, T_, T_, T_, T_, T_, T_, T_, T_, T_, T_, T_, F_, F_, F_, F_] rfl rfl (any_of HT_.out (by kernel_rfl)) (fun _ _ _ h => h) (Or.inl ⟨by rfl, ?_⟩) ?_ ?_; rotate_left
              ·intro w'
               go_simp
               with_reducible rfl
              rotate_left
              ·simp only [Act.put, la_, lz_, ls_, i64_w, i32_w]
               rfl
              refine take_ (i := 20) (N := some 85) (v := ?_) (a' := ?_) #[T_, T_, T_, T_, T_, T_, T_, T_, T_, T_, T_, T_, T_, T_, T_, T_, T_, T_, T_, T_, T_, F_, F_, F_] rfl rfl (take_ofW HT_.out HW_.out (by kernel_rfl)) (fun _ _ _ h => h) (Or.inl ⟨by rfl, ?_⟩) hHeld ?_ ?_; rotate_left
              ·rintro w' ⟨s0, s1, s2, s3, s4, s5, s6, s7, s8, s9⟩
               go_simp
               with_reducible rfl
              rotate_left
              ·simp only [Act.put, la_, lz_, ls_, i64_w, i32_w]
               rfl
              refine pure_ (i := 21) (N := some 86) (v := ?_) (a' := ?_) #[T_, T_, T_, T_, T_, T_, T_, T_, T_, T_, T_, T_, T_, T_, T_, T_, T_, T_, T_, T_, T_, T_, F_, F_] rfl rfl (any_of HT_.out (by kernel_rfl)) (fun _ _ _ h => h) (Or.inl ⟨by rfl, ?_⟩) ?_ ?_; rotate_left
              ·intro w'
               go_simp
               with_reducible rfl
              rotate_left
              ·simp only [Act.put, la_, lz_, ls_, i64_w, i32_w]
               rfl
              refine pure_ (i := 22) (N := some 87) (v := ?_) (a' := ?_) #[T_, T_, T_, T_, T_, T_, T_, T_, T_, T_, T_, T_, T_, T_, T_, T_, T_, T_, T_, T_, T_, T_, T_, F_] rfl rfl (any_of HT_.out (by kernel_rfl)) (fun _ _ _ h => h) (Or.inl ⟨by rfl, ?_⟩) ?_ ?_; rotate_left
              ·intro w'
               go_simp
               with_reducible rfl
              rotate_left
              ·simp only [Act.put, la_, lz_, ls_, i64_w, i32_w]
               rfl
              refine last_ (i := 23) (N := none) #[T_, T_, T_, T_, T_, T_, T_, T_, T_, T_, T_, T_, T_, T_, T_, T_, T_, T_, T_, T_, T_, T_, T_, T_] rfl rfl (one_of HT_.out (by kernel_rfl)) (by decide) (fun K hK => ?_); refine skip_ (w1 := ?_) (by rfl) rfl ?_ ?_; rotate_left
              ·go_simp
               rfl
              refine hK.out _ _ ?_; clear hK K; refine done_ (done_of HT_.out (by kernel_rfl)) ?_
              try go_wp2
              go_roundg k2
              case measure => have := HK1.out; have := HK2.out; omega
              case rel => exact ⟨(wrap64 (x9_2 + (rd l0_3 (ji22)))), (wrap64 (x10_2 + 1)), (y354), (.slice (some ⟨go26, 0, none⟩) x350003_2.length co26), (by first | rfl | (simp; done) | (simp only [← hji22] <;> (first | rfl | simp)) | (simp [*]; done)), q217_, q212_, ⟨q218_⟩, ⟨by (with_reducible repeat (first | apply Kd.R_alloc | apply Kd.R_drewN | apply Kd.R_drew)); exact HQ40.out⟩, ⟨by (with_reducible repeat (first | refine blk_drewN ?_ _ | refine blk_drew ?_ | refine blk_alloc ?_ _)); refine blk_far ?_ (by have h_ := Kd.R_ne HO_350003.out BK338.out (by decide); intro e_; exact h_ (by rw [e_]; rfl)) _; (with_reducible repeat (first | refine blk_drewN ?_ _ | refine blk_drew ?_ | refine blk_alloc ?_ _)); exact BK338.out⟩, ⟨by (with_reducible repeat (first | refine blk_drewN ?_ _ | refine blk_drew ?_ | refine blk_alloc ?_ _)); refine blk_far ?_ (by have h_ := Kd.R_ne HO_350003.out BK339.out (by decide); intro e_; exact h_ (by rw [e_]; rfl)) _; (with_reducible repeat (first | refine blk_drewN ?_ _ | refine blk_drew ?_ | refine blk_alloc ?_ _)); exact BK339.out⟩, ⟨by (with_reducible repeat (first | refine blk_drewN ?_ _ | refine blk_drew ?_ | refine blk_alloc ?_ _)); refine blk_far ?_ (by have h_ := Kd.R_ne HO_350003.out BK349.out (by decide); intro e_; exact h_ (by rw [e_]; rfl)) _; (with_reducible repeat (first | refine blk_drewN ?_ _ | refine blk_drew ?_ | refine blk_alloc ?_ _)); exact BK349.out⟩, ⟨by repeat (first | (with_reducible first | exact HB.out | apply below_alloc | apply pw_below_drewN | apply below_drew1 | refine below_set ?_ GB26.out | refine below_set ?_ GE338.out | refine below_set ?_ GE339.out | refine below_set ?_ GE349.out) | exact HB.out)⟩⟩
             ·rw [if_neg c30] at H
              exact absurd H (by simp)
            ·rw [if_neg c29] at H
             exact absurd H (by simp)
           ·rw [if_neg c27] at H
            have c27b0 : decide (0 < x8_1) = false := decide_eq_false c27; clear c27; have H' := am_ H; clear H; have hnb41 := NB338_339.out; have hnc41 := NB339_338.out; have hnb42 := NB338_349.out; have hnc42 := NB349_338.out; have hcz43_0 := bc0_ BK338.out; have hcz43_1 := bc1_ BK338.out; have hcz43_2 := bc2_ BK338.out; have hcz43_3 := bc3_ BK338.out; have hfz43_0 := blk_frozen BK338.out 0; have hfz43_1 := blk_frozen BK338.out 1; have hfz43_2 := blk_frozen BK338.out 2; have hfz43_3 := blk_frozen BK338.out 3; have p350 : 0 ≤ ((ji22) : Int) := of_decide_eq_true q216_; have q350 : (ji22) < (l0_3.length : Int) := of_decide_eq_true q216_; obtain ⟨ad350, e350, hx350_0⟩ := Kd.at_int HR0_3.out (ji22) p350 q350; cases e350; replace hx350_0 := (HB.out.cell (World.block_lt_of_cell? w _ hx350_0)).trans hx350_0; replace p350 := eq_true p350; replace q350 := eq_true q350; have hnb44 := NB349_339.out; have hnc44 := NB339_349.out; have hcz45_0 := bc0_ BK349.out; have hcz45_1 := bc1_ BK349.out; have hcz45_2 := bc2_ BK349.out; have hcz45_3 := bc3_ BK349.out; have hfz45_0 := blk_frozen BK349.out 0; have hfz45_1 := blk_frozen BK349.out 1; have hfz45_2 := blk_frozen BK349.out 2; have hfz45_3 := blk_frozen BK349.out 3; have p26 : 0 ≤ ((ji22) : Int) := of_decide_eq_true q216_; have q26 : ((ji22) : Int) < ((x350003_2.length : Int) : Int) := of_decide_eq_true q216_; obtain ⟨go26, co26, eo26, gb26, gl26, cl26, HG26⟩ := Kd.R_form HO_350003.out (by omega); (first | cases eo26 | (injection eo26 with ea_ en_ ec_; (first | subst ea_ | (injection ea_ with ea_; subst ea_)); subst ec_; clear en_)); have GB26 := am_ gb26; have GG26 := am_ HG26; clear gb26 gl26 HG26; obtain ⟨hx26_0, hf26_0⟩ := Kd.R_celln 0 HO_350003.out ((ji22) : Int) p26 q26; replace p26 := eq_true p26; replace q26 := eq_true q26; have HP46 := Kd.R_putg HO_350003.out ((ji22) : Int) (wrap64 (x9_2 + (rd l0_3 (ji22))))
            go_wp2_with (first | ((with_reducible refine gate_store (t := 3) (p := 62) rfl ?_); refine store_event (t := 3) (p := 62) (v := ?vo_w47) (w1 := (wr.setCell ⟨go26, ((ji22) : Int).toNat, none⟩ (.int .i64 (wrap64 (x9_2 + (rd l0_3 (ji22))))))) ?hg ?ho ?hn ?hr ?_; (case ho => rfl); (case hg => rfl); (case hn => rfl); (case hr => first | (go_simp; done) | (go_simp; rfl)); intro w47 hw; have hg : wr.grownBy w47 (some go26) := (by rw [hw]; exact HP46.2); have hp_ : Kd.R (Kd.int .i64) 3 w47 w.heap.size (fun _ => True) (.slice (some ⟨go26, 0, none⟩) x350003_2.length co26) y351 := (by rw [hw, Ny351.out]; exact HP46.1); clear HP46; have n0_ := am_ (hp_); have n1_ := am_ (blk_grown (g := gb338) (o := .cells #[.int .i64 a0_0, .int .i64 a0_1, .int .i64 a0_2, .slice (some ad350) l0_3.length c0_3] 26 (0, 0)) q174_ hg (Kd.R_ne HO_350003.out BK338.out (by decide))); have n2_ := am_ (blk_grown (g := gb339) (o := .cells #[.int .i64 0, .int .i64 0, .int .i64 0, .slice none 0 0] 26 (0, 0)) q175_ hg (Kd.R_ne HO_350003.out BK339.out (by decide))); have n3_ := am_ (blk_grown (g := gb349) (o := .cells #[.int .i64 t342, .int .i64 t343, .int .i64 t344, .slice (some ⟨go26, 0, none⟩) x350003_2.length co26] 26 (0, 0)) q176_ hg (Kd.R_ne HO_350003.out BK349.out (by decide))); have n4_ := am_ ((by rw [hw]; exact below_set (HB.out) GB26.out : Below w.heap.size w w47)); clear HO_350003 BK338 BK339 BK349 HB; have HO_350003 := n0_; have BK338 := n1_; have BK339 := n2_; have BK349 := n3_; have HB := n4_; clear n0_ n1_ n2_ n3_ n4_; clear hg hw hp_))
            go_roundg k2
            case measure => have := HK1.out; have := HK2.out; omega
            case rel => exact ⟨(wrap64 (x9_2 + (rd l0_3 (ji22)))), (wrap64 (x10_2 + 1)), (y351), (.slice (some ⟨go26, 0, none⟩) x350003_2.length co26), (by first | rfl | (simp; done) | (simp only [← hji22] <;> (first | rfl | simp)) | (simp [*]; done)), q217_, q212_, ⟨q218_⟩, ⟨q193_⟩, ⟨q174_⟩, ⟨q175_⟩, ⟨q176_⟩, ⟨q69_⟩⟩
          ·rw [if_neg c25] at H
           exact absurd H (by simp)
         ·rw [if_neg c24] at H
          exact absurd H (by simp)
        ·rw [if_neg c23] at H
         exact absurd H (by simp)
       ·rw [if_neg c21] at H
        have c21b0 : decide (x10_2 < a0_0) = false := decide_eq_false c21; clear c21; have H' := am_ H; clear H; have hnb48 := NB338_339.out; have hnc48 := NB339_338.out; have hnb49 := NB338_349.out; have hnc49 := NB349_338.out; have hcz50_0 := bc0_ BK338.out; have hcz50_1 := bc1_ BK338.out; have hcz50_2 := bc2_ BK338.out; have hcz50_3 := bc3_ BK338.out; have hfz50_0 := blk_frozen BK338.out 0; have hfz50_1 := blk_frozen BK338.out 1; have hfz50_2 := blk_frozen BK338.out 2; have hfz50_3 := blk_frozen BK338.out 3
        go_wp2
        go_roundg k2
        case measure => have := HK1.out; have := HK2.out; omega
        case rel => exact ⟨(wrap64 (x8_1 + 1)), (x350003_2), (u350003), q217_, q212_, ⟨q218_⟩, ⟨q193_⟩, ⟨q174_⟩, ⟨q175_⟩, ⟨q176_⟩, ⟨q69_⟩⟩
    ·rw [if_neg c17] at H
     have c17b0 : decide (x8_1 < a0_1) = false := decide_eq_false c17; clear c17; simp only [Option.some.injEq, Prod.mk.injEq] at H; obtain ⟨rfl, rfl, rfl, rfl, rfl⟩ := H; have hnb51 := NB338_339.out; have hnc51 := NB339_338.out; have hnb52 := NB338_349.out; have hnc52 := NB349_338.out; have hcz53_0 := bc0_ BK338.out; have hcz53_1 := bc1_ BK338.out; have hcz53_2 := bc2_ BK338.out; have hcz53_3 := bc3_ BK338.out; have hfz53_0 := blk_frozen BK338.out 0; have hfz53_1 := blk_frozen BK338.out 1; have hfz53_2 := blk_frozen BK338.out 2; have hfz53_3 := blk_frozen BK338.out 3; have hnb54 := NB349_339.out; have hnc54 := NB339_349.out; have hcz55_0 := bc0_ BK349.out; have hcz55_1 := bc1_ BK349.out; have hcz55_2 := bc2_ BK349.out; have hcz55_3 := bc3_ BK349.out; have hfz55_0 := blk_frozen BK349.out 0; have hfz55_1 := blk_frozen BK349.out 1; have hfz55_2 := blk_frozen BK349.out 2; have hfz55_3 := blk_frozen BK349.out 3; have hcz56_0 := bc0_ BK339.out; have hcz56_1 := bc1_ BK339.out; have hcz56_2 := bc2_ BK339.out; have hcz56_3 := bc3_ BK339.out; have hfz56_0 := blk_frozen BK339.out 0; have hfz56_1 := blk_frozen BK339.out 1; have hfz56_2 := blk_frozen BK339.out 2; have hfz56_3 := blk_frozen BK339.out 3; obtain ⟨Ao57, co57, eo57⟩ := Kd.R_slice HO_350003.out; subst eo57
     go_wp2
     refine bodyPost_ret (results_ct rfl _ _ gb339 26 #[.int .i64 t342, .int .i64 t343, .int .i64 t344, .slice Ao57 x350003_1.length co57] (0, 0) _ rfl (by (with_reducible repeat (first | refine blk_drewN ?_ _ | refine blk_drew ?_ | refine blk_alloc ?_ _)); refine blk_put (cs := #[.int .i64 t342, .int .i64 t343, .int .i64 t344, .slice none 0 0]) ?_ 3 _ rfl; (with_reducible repeat (first | refine blk_drewN ?_ _ | refine blk_drew ?_ | refine blk_alloc ?_ _)); refine blk_put (cs := #[.int .i64 t342, .int .i64 t343, .int .i64 0, .slice none 0 0]) ?_ 2 _ rfl; (with_reducible repeat (first | refine blk_drewN ?_ _ | refine blk_drew ?_ | refine blk_alloc ?_ _)); refine blk_put (cs := #[.int .i64 t342, .int .i64 0, .int .i64 0, .slice none 0 0]) ?_ 1 _ rfl; (with_reducible repeat (first | refine blk_drewN ?_ _ | refine blk_drew ?_ | refine blk_alloc ?_ _)); refine blk_put (cs := #[.int .i64 0, .int .i64 0, .int .i64 0, .slice none 0 0]) ?_ 0 _ rfl; (with_reducible repeat (first | refine blk_drewN ?_ _ | refine blk_drew ?_ | refine blk_alloc ?_ _)); exact BK339.out) Try.underlying26 rfl (by kernel_rfl)) rfl ?_; exact ⟨_, q211_, by (with_reducible repeat (first | apply Kd.R_alloc | apply Kd.R_drewN | apply Kd.R_drew)); exact Kd.R_mono (Kd.R_far (p := ⟨gb339, 3, none⟩) (Kd.R_far (p := ⟨gb339, 2, none⟩) (Kd.R_far (p := ⟨gb339, 1, none⟩) (Kd.R_far (p := ⟨gb339, 0, none⟩) (Kd.R_types HO_350003.out BK339.out (by decide)) (fun _ hk => hk.2) (.int .i64 t342)) (fun _ hk => hk.2) (.int .i64 t343)) (fun _ hk => hk.2) (.int .i64 t344)) (fun _ hk => hk.2) (.slice Ao57 x350003_1.length co57)) (fun _ hk => trivial), q69_⟩
 ·rw [if_neg c3] at H
  have c3b0 : (t341 == 0) = false := beq_eq_false_iff_ne.mpr c3; have c3b1 : (t341 != 0) = true := bne_iff_ne.mpr c3; simp only [Option.some.injEq, Prod.mk.injEq] at H; obtain ⟨rfl, rfl, rfl, rfl, rfl⟩ := H
  go_enter Try.func19, Try.ntmps19
  go_wp2_with (first | ((with_reducible refine gate_dst (N := 1) rfl ?_); refine box_event ?hg (N := 1) ?hd (cs := #[.int .i64 a0_0, .int .i64 a0_1, .int .i64 a0_2, .slice A0_3 l0_3.length c0_3]) (t := 26) ?hr ?_; (case hd => rfl); (case hg => rfl); (case hr => first | (go_simp; done) | (go_simp; rfl)); intro gb338 hg w58 hbox hb; have n0_ := am_ (below_step q143_ hb); have n1_ := am_ (hbox); have n2_ := am_ ((q108_ : w.heap.size ≤ gb338)); have n3_ := am_ ((q108_ : w.heap.size ≤ gb338)); clear HB; have HB := n0_; have BK338 := n1_; have GW338 := n2_; have GE338 := n3_; clear n0_ n1_ n2_ n3_; clear hb hbox hg) | ((with_reducible refine gate_dst (N := 2) rfl ?_); refine box_event ?hg (N := 2) ?hd (cs := #[.int .i64 0, .int .i64 0, .int .i64 0, .slice none 0 0]) (t := 26) ?hr ?_; (case hd => rfl); (case hg => rfl); (case hr => first | (go_simp; done) | (go_simp; rfl)); intro gb339 hg w59 hbox hb; have n0_ := am_ (blk_below (g := gb338) (o := .cells #[.int .i64 a0_0, .int .i64 a0_1, .int .i64 a0_2, .slice A0_3 l0_3.length c0_3] 26 (0, 0)) q174_ hb); have n1_ := am_ (below_step q126_ hb); have n2_ := am_ (hbox); have n3_ := am_ ((q86_ : w.heap.size ≤ gb339)); have n4_ := am_ ((q86_ : w.heap.size ≤ gb339)); have n5_ := am_ ((q25_ : gb338 ≠ gb339)); have n6_ := am_ ((q26_ : gb339 ≠ gb338)); clear BK338 HB; have BK338 := n0_; have HB := n1_; have BK339 := n2_; have GW339 := n3_; have GE339 := n4_; have NB338_339 := n5_; have NB339_338 := n6_; clear n0_ n1_ n2_ n3_ n4_ n5_ n6_; clear hb hbox hg; have hnb60 := NB338_339.out; have hnc60 := NB339_338.out; have hcz61_0 := bc0_ BK338.out; have hcz61_1 := bc1_ BK338.out; have hcz61_2 := bc2_ BK338.out; have hcz61_3 := bc3_ BK338.out; have hfz61_0 := blk_frozen BK338.out 0; have hfz61_1 := blk_frozen BK338.out 1; have hfz61_2 := blk_frozen BK338.out 2; have hfz61_3 := blk_frozen BK338.out 3) | ((with_reducible refine gate_callee (f := 37) rfl ?_); refine goesL_ (some 13) rfl rfl Try.func37 (by kernel_rfl) rfl #[.agg #[.int .i64 a0_0, .int .i64 a0_1, .int .i64 a0_2, .slice A0_3 l0_3.length c0_3]] rfl q140_ ?_; (with_reducible refine (tilefarmref13_check.calls k a0_0 a0_1 a0_2 _ _ l0_3 t340 t341 _ ?side1 ?side2 A2.out).mono ?_); (case side1 => repeat (first | exact (Kd.C_below HR0_3.out HB.out) | (with_reducible refine Kd.C_alloc ?_ _) | (with_reducible refine Kd.C_drewN ?_ _) | (with_reducible refine Kd.C_drew ?_))); (case side2 => exact HC0_3.out); rintro e w62 ⟨rfl, hb⟩; refine ⟨_, rfl, ?_⟩; have n0_ := am_ (blk_below (g := gb338) (o := .cells #[.int .i64 a0_0, .int .i64 a0_1, .int .i64 a0_2, .slice A0_3 l0_3.length c0_3] 26 (0, 0)) q174_ hb); have n1_ := am_ (blk_below (g := gb339) (o := .cells #[.int .i64 0, .int .i64 0, .int .i64 0, .slice none 0 0] 26 (0, 0)) q175_ hb); have n2_ := am_ (below_step q96_ hb); clear BK338 BK339 HB; have BK338 := n0_; have BK339 := n1_; have HB := n2_; clear n0_ n1_ n2_; (try clear hb); (try clear hb2); (try clear hk); (try clear hi); have hcz63_0 := bc0_ BK339.out; have hcz63_1 := bc1_ BK339.out; have hcz63_2 := bc2_ BK339.out; have hcz63_3 := bc3_ BK339.out; have hfz63_0 := blk_frozen BK339.out 0; have hfz63_1 := blk_frozen BK339.out 1; have hfz63_2 := blk_frozen BK339.out 2; have hfz63_3 := blk_frozen BK339.out 3))
  refine bodyPost_ret (results_ct rfl _ _ gb339 26 #[.int .i64 0, .int .i64 0, .int .i64 0, .slice none 0 0] (0, 0) _ rfl (by (with_reducible repeat (first | refine blk_drewN ?_ _ | refine blk_drew ?_ | refine blk_alloc ?_ _)); refine blk_put (cs := #[.int .i64 0, .int .i64 0, .int .i64 0, .slice none 0 0]) ?_ 3 _ rfl; (with_reducible repeat (first | refine blk_drewN ?_ _ | refine blk_drew ?_ | refine blk_alloc ?_ _)); refine blk_put (cs := #[.int .i64 0, .int .i64 0, .int .i64 0, .slice none 0 0]) ?_ 2 _ rfl; (with_reducible repeat (first | refine blk_drewN ?_ _ | refine blk_drew ?_ | refine blk_alloc ?_ _)); refine blk_put (cs := #[.int .i64 0, .int .i64 0, .int .i64 0, .slice none 0 0]) ?_ 1 _ rfl; (with_reducible repeat (first | refine blk_drewN ?_ _ | refine blk_drew ?_ | refine blk_alloc ?_ _)); refine blk_put (cs := #[.int .i64 0, .int .i64 0, .int .i64 0, .slice none 0 0]) ?_ 0 _ rfl; (with_reducible repeat (first | refine blk_drewN ?_ _ | refine blk_drew ?_ | refine blk_alloc ?_ _)); exact BK339.out) Try.underlying26 rfl (by kernel_rfl)) rfl ?_; exact ⟨_, q211_, q139_, q96_⟩


def tilefarmref2_coord.f (a0 : Int) : Option (Bool) := if a0 ≥ (-1048576) then (some (decide (a0 ≤ 1048576))) else (some false)
set_option maxHeartbeats 8000000 in
set_option maxRecDepth 100000 in
theorem tilefarmref2_coord.calls (a0 : Int) (r : Bool) (w : World) (h : tilefarmref2_coord.f a0 = some r) :
  Calls Try.prog 60 #[.int .i64 a0] w fun e w' => e = .returned (.bool r) ∧ Drawn0 w w' := by
 have H : (if a0 ≥ (-1048576) then (some (decide (a0 ≤ 1048576))) else (some false)) = some r := h; clear h
 by_cases c2 : a0 ≥ (-1048576)
 ·rw [if_pos c2] at H
  have c2b0 : decide ((-1048576) ≤ a0) = true := decide_eq_true c2; clear c2; obtain rfl := Option.some.inj H
  go_enter Try.func60, Try.ntmps60
  go_wp2
  go_ret
  exact ⟨q217_, q213_⟩
 ·rw [if_neg c2] at H
  have c2b0 : decide ((-1048576) ≤ a0) = false := decide_eq_false c2; clear c2; obtain rfl := Option.some.inj H
  go_enter Try.func60, Try.ntmps60
  go_wp2
  go_ret
  exact ⟨q217_, q213_⟩


def tilefarmref2_Valid.f (a0_0 : Int) (a0_1 : Int) (a0_2 : Int) (a0_3 : Int) : Option (Bool) := if (a0_0 == 0 && (a0_1 == 0 && (a0_2 == 0 && (a0_3 == 0)))) = true then (some true) else ((tilefarmref2_coord.f a0_0).bind fun t356 => (if t356 = true then ((tilefarmref2_coord.f a0_1).bind fun t357 => (if t357 = true then ((tilefarmref2_coord.f a0_2).bind fun t358 => (if t358 = true then ((tilefarmref2_coord.f a0_3).bind fun t359 => (if t359 = true then (if a0_0 < a0_2 then (some (decide (a0_1 < a0_3))) else (some false)) else (some false))) else (some false))) else (some false))) else (some false)))
set_option maxHeartbeats 8000000 in
set_option maxRecDepth 100000 in
theorem tilefarmref2_Valid.calls (a0_0 : Int) (a0_1 : Int) (a0_2 : Int) (a0_3 : Int) (r : Bool) (w : World) (h : tilefarmref2_Valid.f a0_0 a0_1 a0_2 a0_3 = some r) :
  Calls Try.prog 57 #[.agg #[.int .i64 a0_0, .int .i64 a0_1, .int .i64 a0_2, .int .i64 a0_3]] w fun e w' => e = .returned (.bool r) ∧ Below w.heap.size w w' := by
 have hu32 := Try.underlying32; have HB := am_ (Below.refl w.heap.size w); have H : (if (a0_0 == 0 && (a0_1 == 0 && (a0_2 == 0 && (a0_3 == 0)))) = true then (some true) else ((tilefarmref2_coord.f a0_0).bind fun t356 => (if t356 = true then ((tilefarmref2_coord.f a0_1).bind fun t357 => (if t357 = true then ((tilefarmref2_coord.f a0_2).bind fun t358 => (if t358 = true then ((tilefarmref2_coord.f a0_3).bind fun t359 => (if t359 = true then (if a0_0 < a0_2 then (some (decide (a0_1 < a0_3))) else (some false)) else (some false))) else (some false))) else (some false))) else (some false)))) = some r := h; clear h
 by_cases c2 : (a0_0 == 0 && (a0_1 == 0 && (a0_2 == 0 && (a0_3 == 0)))) = true
 ·rw [if_pos c2] at H
  have c2b0 : (a0_0 == 0 && (a0_1 == 0 && (a0_2 == 0 && (a0_3 == 0)))) = true := c2; (try (have c2b1 : decide (a0_0 = 0 && (a0_1 == 0 && (a0_2 == 0 && (a0_3 == 0)))) = true := by simpa using c2)); (try (have c2b2 : (a0_0 == 0 && (a0_1 == 0 && (a0_2 == 0 && (a0_3 == 0)))) = true := by simpa using c2)); clear c2; obtain rfl := Option.some.inj H
  go_enter Try.func57, Try.ntmps57
  go_wp2_with (first | ((with_reducible refine gate_dst (N := 1) rfl ?_); refine box_event ?hg (N := 1) ?hd (cs := #[.int .i64 a0_0, .int .i64 a0_1, .int .i64 a0_2, .int .i64 a0_3]) (t := 32) ?hr ?_; (case hd => rfl); (case hg => rfl); (case hr => first | (go_simp; done) | (go_simp; rfl)); intro gb355 hg w3 hbox hb; have n0_ := am_ (below_step q143_ hb); have n1_ := am_ (hbox); have n2_ := am_ ((q108_ : w.heap.size ≤ gb355)); have n3_ := am_ ((q108_ : w.heap.size ≤ gb355)); clear HB; have HB := n0_; have BK355 := n1_; have GW355 := n2_; have GE355 := n3_; clear n0_ n1_ n2_ n3_; clear hb hbox hg; have hcz4_0 := bc0_ BK355.out; have hcz4_1 := bc1_ BK355.out; have hcz4_2 := bc2_ BK355.out; have hcz4_3 := bc3_ BK355.out; have hfz4_0 := blk_frozen BK355.out 0; have hfz4_1 := blk_frozen BK355.out 1; have hfz4_2 := blk_frozen BK355.out 2; have hfz4_3 := blk_frozen BK355.out 3))
  go_ret
  exact ⟨q211_, q127_⟩
 ·rw [if_neg c2] at H
  have c2b0 : (a0_0 == 0 && (a0_1 == 0 && (a0_2 == 0 && (a0_3 == 0)))) = false := by simpa using c2
  (try (have c2b1 : decide (a0_0 = 0 && (a0_1 == 0 && (a0_2 == 0 && (a0_3 == 0)))) = false := by simpa using c2)); (try (have c2b2 : (a0_0 == 0 && (a0_1 == 0 && (a0_2 == 0 && (a0_3 == 0)))) = false := by simpa using c2)); (try (have c2b3 : ¬ (a0_0 = 0 && (a0_1 == 0 && (a0_2 == 0 && (a0_3 == 0)))) := by simpa using c2)); clear c2; replace H := Option.bind_eq_some_iff.mp H; obtain ⟨t356, A50, H⟩ := H; replace H : (if t356 = true then ((tilefarmref2_coord.f a0_1).bind fun t357 => (if t357 = true then ((tilefarmref2_coord.f a0_2).bind fun t358 => (if t358 = true then ((tilefarmref2_coord.f a0_3).bind fun t359 => (if t359 = true then (if a0_0 < a0_2 then (some (decide (a0_1 < a0_3))) else (some false)) else (some false))) else (some false))) else (some false))) else (some false)) = some r := H; have A5 := am_ A50; clear A50
  by_cases c6 : t356 = true
  ·subst c6
   have H1 : ((tilefarmref2_coord.f a0_1).bind fun t357 => (if t357 = true then ((tilefarmref2_coord.f a0_2).bind fun t358 => (if t358 = true then ((tilefarmref2_coord.f a0_3).bind fun t359 => (if t359 = true then (if a0_0 < a0_2 then (some (decide (a0_1 < a0_3))) else (some false)) else (some false))) else (some false))) else (some false))) = some r := by rw [if_pos rfl] at H; exact H
   clear H; have H := H1; clear H1; replace H := Option.bind_eq_some_iff.mp H; obtain ⟨t357, A70, H⟩ := H; replace H : (if t357 = true then ((tilefarmref2_coord.f a0_2).bind fun t358 => (if t358 = true then ((tilefarmref2_coord.f a0_3).bind fun t359 => (if t359 = true then (if a0_0 < a0_2 then (some (decide (a0_1 < a0_3))) else (some false)) else (some false))) else (some false))) else (some false)) = some r := H; have A7 := am_ A70; clear A70
   by_cases c8 : t357 = true
   ·subst c8
    have H1 : ((tilefarmref2_coord.f a0_2).bind fun t358 => (if t358 = true then ((tilefarmref2_coord.f a0_3).bind fun t359 => (if t359 = true then (if a0_0 < a0_2 then (some (decide (a0_1 < a0_3))) else (some false)) else (some false))) else (some false))) = some r := by rw [if_pos rfl] at H; exact H
    clear H; have H := H1; clear H1; replace H := Option.bind_eq_some_iff.mp H; obtain ⟨t358, A90, H⟩ := H; replace H : (if t358 = true then ((tilefarmref2_coord.f a0_3).bind fun t359 => (if t359 = true then (if a0_0 < a0_2 then (some (decide (a0_1 < a0_3))) else (some false)) else (some false))) else (some false)) = some r := H; have A9 := am_ A90; clear A90
    by_cases c10 : t358 = true
    ·subst c10
     have H1 : ((tilefarmref2_coord.f a0_3).bind fun t359 => (if t359 = true then (if a0_0 < a0_2 then (some (decide (a0_1 < a0_3))) else (some false)) else (some false))) = some r := by rw [if_pos rfl] at H; exact H
     clear H; have H := H1; clear H1; replace H := Option.bind_eq_some_iff.mp H; obtain ⟨t359, A110, H⟩ := H; replace H : (if t359 = true then (if a0_0 < a0_2 then (some (decide (a0_1 < a0_3))) else (some false)) else (some false)) = some r := H; have A11 := am_ A110; clear A110
     by_cases c12 : t359 = true
     ·subst c12
      have H1 : (if a0_0 < a0_2 then (some (decide (a0_1 < a0_3))) else (some false)) = some r := by rw [if_pos rfl] at H; exact H
      clear H; have H := H1; clear H1
      by_cases c13 : a0_0 < a0_2
      ·rw [if_pos c13] at H
       have c13b0 : decide (a0_0 < a0_2) = true := decide_eq_true c13; clear c13; obtain rfl := Option.some.inj H
       go_enter Try.func57, Try.ntmps57
       go_wp2_with (first | ((with_reducible refine gate_dst (N := 1) rfl ?_); refine box_event ?hg (N := 1) ?hd (cs := #[.int .i64 a0_0, .int .i64 a0_1, .int .i64 a0_2, .int .i64 a0_3]) (t := 32) ?hr ?_; (case hd => rfl); (case hg => rfl); (case hr => first | (go_simp; done) | (go_simp; rfl)); intro gb355 hg w14 hbox hb; have n0_ := am_ (below_step q143_ hb); have n1_ := am_ (hbox); have n2_ := am_ ((q108_ : w.heap.size ≤ gb355)); have n3_ := am_ ((q108_ : w.heap.size ≤ gb355)); clear HB; have HB := n0_; have BK355 := n1_; have GW355 := n2_; have GE355 := n3_; clear n0_ n1_ n2_ n3_; clear hb hbox hg; have hcz15_0 := bc0_ BK355.out; have hcz15_1 := bc1_ BK355.out; have hcz15_2 := bc2_ BK355.out; have hcz15_3 := bc3_ BK355.out; have hfz15_0 := blk_frozen BK355.out 0; have hfz15_1 := blk_frozen BK355.out 1; have hfz15_2 := blk_frozen BK355.out 2; have hfz15_3 := blk_frozen BK355.out 3) | (go_at_call 60; (with_reducible refine (tilefarmref2_coord.calls a0_0 true _ A5.out).mono ?_); rintro e w' ⟨rfl, ⟨nd, rfl⟩⟩) | (go_at_call 60; (with_reducible refine (tilefarmref2_coord.calls a0_1 true _ A7.out).mono ?_); rintro e w' ⟨rfl, ⟨nd, rfl⟩⟩) | (go_at_call 60; (with_reducible refine (tilefarmref2_coord.calls a0_2 true _ A9.out).mono ?_); rintro e w' ⟨rfl, ⟨nd, rfl⟩⟩) | (go_at_call 60; (with_reducible refine (tilefarmref2_coord.calls a0_3 true _ A11.out).mono ?_); rintro e w' ⟨rfl, ⟨nd, rfl⟩⟩))
       go_ret
       exact ⟨q211_, q127_⟩
      ·rw [if_neg c13] at H
       have c13b0 : decide (a0_0 < a0_2) = false := decide_eq_false c13; clear c13; obtain rfl := Option.some.inj H
       go_enter Try.func57, Try.ntmps57
       go_wp2_with (first | ((with_reducible refine gate_dst (N := 1) rfl ?_); refine box_event ?hg (N := 1) ?hd (cs := #[.int .i64 a0_0, .int .i64 a0_1, .int .i64 a0_2, .int .i64 a0_3]) (t := 32) ?hr ?_; (case hd => rfl); (case hg => rfl); (case hr => first | (go_simp; done) | (go_simp; rfl)); intro gb355 hg w16 hbox hb; have n0_ := am_ (below_step q143_ hb); have n1_ := am_ (hbox); have n2_ := am_ ((q108_ : w.heap.size ≤ gb355)); have n3_ := am_ ((q108_ : w.heap.size ≤ gb355)); clear HB; have HB := n0_; have BK355 := n1_; have GW355 := n2_; have GE355 := n3_; clear n0_ n1_ n2_ n3_; clear hb hbox hg; have hcz17_0 := bc0_ BK355.out; have hcz17_1 := bc1_ BK355.out; have hcz17_2 := bc2_ BK355.out; have hcz17_3 := bc3_ BK355.out; have hfz17_0 := blk_frozen BK355.out 0; have hfz17_1 := blk_frozen BK355.out 1; have hfz17_2 := blk_frozen BK355.out 2; have hfz17_3 := blk_frozen BK355.out 3) | (go_at_call 60; (with_reducible refine (tilefarmref2_coord.calls a0_0 true _ A5.out).mono ?_); rintro e w' ⟨rfl, ⟨nd, rfl⟩⟩) | (go_at_call 60; (with_reducible refine (tilefarmref2_coord.calls a0_1 true _ A7.out).mono ?_); rintro e w' ⟨rfl, ⟨nd, rfl⟩⟩) | (go_at_call 60; (with_reducible refine (tilefarmref2_coord.calls a0_2 true _ A9.out).mono ?_); rintro e w' ⟨rfl, ⟨nd, rfl⟩⟩) | (go_at_call 60; (with_reducible refine (tilefarmref2_coord.calls a0_3 true _ A11.out).mono ?_); rintro e w' ⟨rfl, ⟨nd, rfl⟩⟩))
       go_ret
       exact ⟨q211_, q127_⟩
     ·replace c12 := Bool.eq_false_iff.mpr c12
      subst c12; have H1 : (some false) = some r := by rw [if_neg (show ¬ (false = true) by decide)] at H; exact H
      clear H; have H := H1; clear H1; obtain rfl := Option.some.inj H
      go_enter Try.func57, Try.ntmps57
      go_wp2_with (first | ((with_reducible refine gate_dst (N := 1) rfl ?_); refine box_event ?hg (N := 1) ?hd (cs := #[.int .i64 a0_0, .int .i64 a0_1, .int .i64 a0_2, .int .i64 a0_3]) (t := 32) ?hr ?_; (case hd => rfl); (case hg => rfl); (case hr => first | (go_simp; done) | (go_simp; rfl)); intro gb355 hg w18 hbox hb; have n0_ := am_ (below_step q143_ hb); have n1_ := am_ (hbox); have n2_ := am_ ((q108_ : w.heap.size ≤ gb355)); have n3_ := am_ ((q108_ : w.heap.size ≤ gb355)); clear HB; have HB := n0_; have BK355 := n1_; have GW355 := n2_; have GE355 := n3_; clear n0_ n1_ n2_ n3_; clear hb hbox hg; have hcz19_0 := bc0_ BK355.out; have hcz19_1 := bc1_ BK355.out; have hcz19_2 := bc2_ BK355.out; have hcz19_3 := bc3_ BK355.out; have hfz19_0 := blk_frozen BK355.out 0; have hfz19_1 := blk_frozen BK355.out 1; have hfz19_2 := blk_frozen BK355.out 2; have hfz19_3 := blk_frozen BK355.out 3) | (go_at_call 60; (with_reducible refine (tilefarmref2_coord.calls a0_0 true _ A5.out).mono ?_); rintro e w' ⟨rfl, ⟨nd, rfl⟩⟩) | (go_at_call 60; (with_reducible refine (tilefarmref2_coord.calls a0_1 true _ A7.out).mono ?_); rintro e w' ⟨rfl, ⟨nd, rfl⟩⟩) | (go_at_call 60; (with_reducible refine (tilefarmref2_coord.calls a0_2 true _ A9.out).mono ?_); rintro e w' ⟨rfl, ⟨nd, rfl⟩⟩) | (go_at_call 60; (with_reducible refine (tilefarmref2_coord.calls a0_3 false _ A11.out).mono ?_); rintro e w' ⟨rfl, ⟨nd, rfl⟩⟩))
      go_ret
      exact ⟨q211_, q127_⟩
    ·replace c10 := Bool.eq_false_iff.mpr c10
     subst c10; have H1 : (some false) = some r := by rw [if_neg (show ¬ (false = true) by decide)] at H; exact H
     clear H; have H := H1; clear H1; obtain rfl := Option.some.inj H
     go_enter Try.func57, Try.ntmps57
     go_wp2_with (first | ((with_reducible refine gate_dst (N := 1) rfl ?_); refine box_event ?hg (N := 1) ?hd (cs := #[.int .i64 a0_0, .int .i64 a0_1, .int .i64 a0_2, .int .i64 a0_3]) (t := 32) ?hr ?_; (case hd => rfl); (case hg => rfl); (case hr => first | (go_simp; done) | (go_simp; rfl)); intro gb355 hg w20 hbox hb; have n0_ := am_ (below_step q143_ hb); have n1_ := am_ (hbox); have n2_ := am_ ((q108_ : w.heap.size ≤ gb355)); have n3_ := am_ ((q108_ : w.heap.size ≤ gb355)); clear HB; have HB := n0_; have BK355 := n1_; have GW355 := n2_; have GE355 := n3_; clear n0_ n1_ n2_ n3_; clear hb hbox hg; have hcz21_0 := bc0_ BK355.out; have hcz21_1 := bc1_ BK355.out; have hcz21_2 := bc2_ BK355.out; have hcz21_3 := bc3_ BK355.out; have hfz21_0 := blk_frozen BK355.out 0; have hfz21_1 := blk_frozen BK355.out 1; have hfz21_2 := blk_frozen BK355.out 2; have hfz21_3 := blk_frozen BK355.out 3) | (go_at_call 60; (with_reducible refine (tilefarmref2_coord.calls a0_0 true _ A5.out).mono ?_); rintro e w' ⟨rfl, ⟨nd, rfl⟩⟩) | (go_at_call 60; (with_reducible refine (tilefarmref2_coord.calls a0_1 true _ A7.out).mono ?_); rintro e w' ⟨rfl, ⟨nd, rfl⟩⟩) | (go_at_call 60; (with_reducible refine (tilefarmref2_coord.calls a0_2 false _ A9.out).mono ?_); rintro e w' ⟨rfl, ⟨nd, rfl⟩⟩))
     go_ret
     exact ⟨q211_, q127_⟩
   ·replace c8 := Bool.eq_false_iff.mpr c8
    subst c8; have H1 : (some false) = some r := by rw [if_neg (show ¬ (false = true) by decide)] at H; exact H
    clear H; have H := H1; clear H1; obtain rfl := Option.some.inj H
    go_enter Try.func57, Try.ntmps57
    go_wp2_with (first | ((with_reducible refine gate_dst (N := 1) rfl ?_); refine box_event ?hg (N := 1) ?hd (cs := #[.int .i64 a0_0, .int .i64 a0_1, .int .i64 a0_2, .int .i64 a0_3]) (t := 32) ?hr ?_; (case hd => rfl); (case hg => rfl); (case hr => first | (go_simp; done) | (go_simp; rfl)); intro gb355 hg w22 hbox hb; have n0_ := am_ (below_step q143_ hb); have n1_ := am_ (hbox); have n2_ := am_ ((q108_ : w.heap.size ≤ gb355)); have n3_ := am_ ((q108_ : w.heap.size ≤ gb355)); clear HB; have HB := n0_; have BK355 := n1_; have GW355 := n2_; have GE355 := n3_; clear n0_ n1_ n2_ n3_; clear hb hbox hg; have hcz23_0 := bc0_ BK355.out; have hcz23_1 := bc1_ BK355.out; have hcz23_2 := bc2_ BK355.out; have hcz23_3 := bc3_ BK355.out; have hfz23_0 := blk_frozen BK355.out 0; have hfz23_1 := blk_frozen BK355.out 1; have hfz23_2 := blk_frozen BK355.out 2; have hfz23_3 := blk_frozen BK355.out 3) | (go_at_call 60; (with_reducible refine (tilefarmref2_coord.calls a0_0 true _ A5.out).mono ?_); rintro e w' ⟨rfl, ⟨nd, rfl⟩⟩) | (go_at_call 60; (with_reducible refine (tilefarmref2_coord.calls a0_1 false _ A7.out).mono ?_); rintro e w' ⟨rfl, ⟨nd, rfl⟩⟩))
    go_ret
    exact ⟨q211_, q127_⟩
  ·replace c6 := Bool.eq_false_iff.mpr c6
   subst c6; have H1 : (some false) = some r := by rw [if_neg (show ¬ (false = true) by decide)] at H; exact H
   clear H; have H := H1; clear H1; obtain rfl := Option.some.inj H
   go_enter Try.func57, Try.ntmps57
   go_wp2_with (first | ((with_reducible refine gate_dst (N := 1) rfl ?_); refine box_event ?hg (N := 1) ?hd (cs := #[.int .i64 a0_0, .int .i64 a0_1, .int .i64 a0_2, .int .i64 a0_3]) (t := 32) ?hr ?_; (case hd => rfl); (case hg => rfl); (case hr => first | (go_simp; done) | (go_simp; rfl)); intro gb355 hg w24 hbox hb; have n0_ := am_ (below_step q143_ hb); have n1_ := am_ (hbox); have n2_ := am_ ((q108_ : w.heap.size ≤ gb355)); have n3_ := am_ ((q108_ : w.heap.size ≤ gb355)); clear HB; have HB := n0_; have BK355 := n1_; have GW355 := n2_; have GE355 := n3_; clear n0_ n1_ n2_ n3_; clear hb hbox hg; have hcz25_0 := bc0_ BK355.out; have hcz25_1 := bc1_ BK355.out; have hcz25_2 := bc2_ BK355.out; have hcz25_3 := bc3_ BK355.out; have hfz25_0 := blk_frozen BK355.out 0; have hfz25_1 := blk_frozen BK355.out 1; have hfz25_2 := blk_frozen BK355.out 2; have hfz25_3 := blk_frozen BK355.out 3) | (go_at_call 60; (with_reducible refine (tilefarmref2_coord.calls a0_0 false _ A5.out).mono ?_); rintro e w' ⟨rfl, ⟨nd, rfl⟩⟩))
   go_ret
   exact ⟨q211_, q127_⟩


def tilefarmref2_Empty.f (a0_0 : Int) (a0_1 : Int) (a0_2 : Int) (a0_3 : Int) : Option (Bool) := some (a0_0 == 0 && (a0_1 == 0 && (a0_2 == 0 && (a0_3 == 0))))
set_option maxHeartbeats 8000000 in
set_option maxRecDepth 100000 in
theorem tilefarmref2_Empty.calls (a0_0 : Int) (a0_1 : Int) (a0_2 : Int) (a0_3 : Int) (r : Bool) (w : World) (h : tilefarmref2_Empty.f a0_0 a0_1 a0_2 a0_3 = some r) :
  Calls Try.prog 58 #[.agg #[.int .i64 a0_0, .int .i64 a0_1, .int .i64 a0_2, .int .i64 a0_3]] w fun e w' => e = .returned (.bool r) ∧ Below w.heap.size w w' := by
 have hu32 := Try.underlying32; have HB := am_ (Below.refl w.heap.size w); have H : (some (a0_0 == 0 && (a0_1 == 0 && (a0_2 == 0 && (a0_3 == 0))))) = some r := h; clear h; obtain rfl := Option.some.inj H
 go_enter Try.func58, Try.ntmps58
 go_wp2_with (first | ((with_reducible refine gate_dst (N := 1) rfl ?_); refine box_event ?hg (N := 1) ?hd (cs := #[.int .i64 a0_0, .int .i64 a0_1, .int .i64 a0_2, .int .i64 a0_3]) (t := 32) ?hr ?_; (case hd => rfl); (case hg => rfl); (case hr => first | (go_simp; done) | (go_simp; rfl)); intro gb360 hg w2 hbox hb; have n0_ := am_ (below_step q143_ hb); have n1_ := am_ (hbox); have n2_ := am_ ((q108_ : w.heap.size ≤ gb360)); have n3_ := am_ ((q108_ : w.heap.size ≤ gb360)); clear HB; have HB := n0_; have BK360 := n1_; have GW360 := n2_; have GE360 := n3_; clear n0_ n1_ n2_ n3_; clear hb hbox hg; have hcz3_0 := bc0_ BK360.out; have hcz3_1 := bc1_ BK360.out; have hcz3_2 := bc2_ BK360.out; have hcz3_3 := bc3_ BK360.out; have hfz3_0 := blk_frozen BK360.out 0; have hfz3_1 := blk_frozen BK360.out 1; have hfz3_2 := blk_frozen BK360.out 2; have hfz3_3 := blk_frozen BK360.out 3))
 go_ret
 exact ⟨q211_, by repeat (first | (with_reducible first | exact HB.out | apply below_alloc | apply pw_below_drewN | apply below_drew1 | refine below_set ?_ GE360.out) | exact HB.out)⟩


def tilefarmref2_Full.f (a0_0 : Int) (a0_1 : Int) (a0_2 : Int) (a0_3 : Int) : Option (Bool) := (tilefarmref2_Valid.f a0_0 a0_1 a0_2 a0_3).bind fun t362 => (if t362 = true then ((tilefarmref2_Empty.f a0_0 a0_1 a0_2 a0_3).bind fun t363 => (some (!t363))) else (some false))
set_option maxHeartbeats 8000000 in
set_option maxRecDepth 100000 in
theorem tilefarmref2_Full.calls (a0_0 : Int) (a0_1 : Int) (a0_2 : Int) (a0_3 : Int) (r : Bool) (w : World) (h : tilefarmref2_Full.f a0_0 a0_1 a0_2 a0_3 = some r) :
  Calls Try.prog 40 #[.agg #[.int .i64 a0_0, .int .i64 a0_1, .int .i64 a0_2, .int .i64 a0_3]] w fun e w' => e = .returned (.bool r) ∧ Below w.heap.size w w' := by
 have hu32 := Try.underlying32; have HB := am_ (Below.refl w.heap.size w); have H : ((tilefarmref2_Valid.f a0_0 a0_1 a0_2 a0_3).bind fun t362 => (if t362 = true then ((tilefarmref2_Empty.f a0_0 a0_1 a0_2 a0_3).bind fun t363 => (some (!t363))) else (some false))) = some r := h; clear h; replace H := Option.bind_eq_some_iff.mp H; obtain ⟨t362, A20, H⟩ := H; replace H : (if t362 = true then ((tilefarmref2_Empty.f a0_0 a0_1 a0_2 a0_3).bind fun t363 => (some (!t363))) else (some false)) = some r := H; have A2 := am_ A20; clear A20
 by_cases c3 : t362 = true
 ·subst c3
  have H1 : ((tilefarmref2_Empty.f a0_0 a0_1 a0_2 a0_3).bind fun t363 => (some (!t363))) = some r := by rw [if_pos rfl] at H; exact H
  clear H; have H := H1; clear H1; replace H := Option.bind_eq_some_iff.mp H; obtain ⟨t363, A40, H⟩ := H; replace H : (some (!t363)) = some r := H; have A4 := am_ A40; clear A40; obtain rfl := Option.some.inj H
  go_enter Try.func40, Try.ntmps40
  go_wp2_with (first | ((with_reducible refine gate_dst (N := 1) rfl ?_); refine box_event ?hg (N := 1) ?hd (cs := #[.int .i64 a0_0, .int .i64 a0_1, .int .i64 a0_2, .int .i64 a0_3]) (t := 32) ?hr ?_; (case hd => rfl); (case hg => rfl); (case hr => first | (go_simp; done) | (go_simp; rfl)); intro gb361 hg w5 hbox hb; have n0_ := am_ (below_step q143_ hb); have n1_ := am_ (hbox); have n2_ := am_ ((q108_ : w.heap.size ≤ gb361)); have n3_ := am_ ((q108_ : w.heap.size ≤ gb361)); clear HB; have HB := n0_; have BK361 := n1_; have GW361 := n2_; have GE361 := n3_; clear n0_ n1_ n2_ n3_; clear hb hbox hg; have hcz6_0 := bc0_ BK361.out; have hcz6_1 := bc1_ BK361.out; have hcz6_2 := bc2_ BK361.out; have hcz6_3 := bc3_ BK361.out; have hfz6_0 := blk_frozen BK361.out 0; have hfz6_1 := blk_frozen BK361.out 1; have hfz6_2 := blk_frozen BK361.out 2; have hfz6_3 := blk_frozen BK361.out 3) | ((with_reducible refine gate_callee (f := 57) rfl ?_); refine goesL_ (some 4) rfl rfl Try.func57 (by kernel_rfl) rfl #[.agg #[.int .i64 a0_0, .int .i64 a0_1, .int .i64 a0_2, .int .i64 a0_3]] rfl q140_ ?_; (with_reducible refine (tilefarmref2_Valid.calls a0_0 a0_1 a0_2 a0_3 true _ A2.out).mono ?_); rintro e w7 ⟨rfl, hb⟩; refine ⟨_, rfl, ?_⟩; have n0_ := am_ (blk_below (g := gb361) (o := .cells #[.int .i64 a0_0, .int .i64 a0_1, .int .i64 a0_2, .int .i64 a0_3] 32 (0, 0)) q177_ hb); have n1_ := am_ (below_step q128_ hb); clear BK361 HB; have BK361 := n0_; have HB := n1_; clear n0_ n1_; (try clear hb); (try clear hb2); (try clear hk); (try clear hi); have hcz8_0 := bc0_ BK361.out; have hcz8_1 := bc1_ BK361.out; have hcz8_2 := bc2_ BK361.out; have hcz8_3 := bc3_ BK361.out; have hfz8_0 := blk_frozen BK361.out 0; have hfz8_1 := blk_frozen BK361.out 1; have hfz8_2 := blk_frozen BK361.out 2; have hfz8_3 := blk_frozen BK361.out 3) | (go_at_call 58; (with_reducible refine (tilefarmref2_Empty.calls a0_0 a0_1 a0_2 a0_3 t363 _ A4.out).mono ?_); rintro e w9 ⟨rfl, hb⟩; have n0_ := am_ (blk_below (g := gb361) (o := .cells #[.int .i64 a0_0, .int .i64 a0_1, .int .i64 a0_2, .int .i64 a0_3] 32 (0, 0)) q177_ hb); have n1_ := am_ (below_step q128_ hb); clear BK361 HB; have BK361 := n0_; have HB := n1_; clear n0_ n1_; (try clear hb); (try clear hb2); (try clear hk); (try clear hi)))
  go_ret
  exact ⟨q211_, q128_⟩
 ·replace c3 := Bool.eq_false_iff.mpr c3
  subst c3; have H1 : (some false) = some r := by rw [if_neg (show ¬ (false = true) by decide)] at H; exact H
  clear H; have H := H1; clear H1; obtain rfl := Option.some.inj H
  go_enter Try.func40, Try.ntmps40
  go_wp2_with (first | ((with_reducible refine gate_dst (N := 1) rfl ?_); refine box_event ?hg (N := 1) ?hd (cs := #[.int .i64 a0_0, .int .i64 a0_1, .int .i64 a0_2, .int .i64 a0_3]) (t := 32) ?hr ?_; (case hd => rfl); (case hg => rfl); (case hr => first | (go_simp; done) | (go_simp; rfl)); intro gb361 hg w10 hbox hb; have n0_ := am_ (below_step q143_ hb); have n1_ := am_ (hbox); have n2_ := am_ ((q108_ : w.heap.size ≤ gb361)); have n3_ := am_ ((q108_ : w.heap.size ≤ gb361)); clear HB; have HB := n0_; have BK361 := n1_; have GW361 := n2_; have GE361 := n3_; clear n0_ n1_ n2_ n3_; clear hb hbox hg; have hcz11_0 := bc0_ BK361.out; have hcz11_1 := bc1_ BK361.out; have hcz11_2 := bc2_ BK361.out; have hcz11_3 := bc3_ BK361.out; have hfz11_0 := blk_frozen BK361.out 0; have hfz11_1 := blk_frozen BK361.out 1; have hfz11_2 := blk_frozen BK361.out 2; have hfz11_3 := blk_frozen BK361.out 3) | ((with_reducible refine gate_callee (f := 57) rfl ?_); refine goesL_ (some 4) rfl rfl Try.func57 (by kernel_rfl) rfl #[.agg #[.int .i64 a0_0, .int .i64 a0_1, .int .i64 a0_2, .int .i64 a0_3]] rfl q140_ ?_; (with_reducible refine (tilefarmref2_Valid.calls a0_0 a0_1 a0_2 a0_3 false _ A2.out).mono ?_); rintro e w12 ⟨rfl, hb⟩; refine ⟨_, rfl, ?_⟩; have n0_ := am_ (blk_below (g := gb361) (o := .cells #[.int .i64 a0_0, .int .i64 a0_1, .int .i64 a0_2, .int .i64 a0_3] 32 (0, 0)) q177_ hb); have n1_ := am_ (below_step q128_ hb); clear BK361 HB; have BK361 := n0_; have HB := n1_; clear n0_ n1_; (try clear hb); (try clear hb2); (try clear hk); (try clear hi)))
  go_ret
  exact ⟨q211_, q128_⟩

end Go.Proofs.Ytkipnpgcpohlcaa.PIntegralWhole
