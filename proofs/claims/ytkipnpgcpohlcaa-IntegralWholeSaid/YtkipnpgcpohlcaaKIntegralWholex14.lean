-- Written by a program of the session (wip/tools/pack.py): the printed texts, pruned; checked by Lean.
import Derived.Test.YtkipnpgcpohlcaaKIntegralWholea
import Derived.Test.YtkipnpgcpohlcaaKIntegralWholex0
import Derived.Test.YtkipnpgcpohlcaaKIntegralWholex11
import Derived.Test.YtkipnpgcpohlcaaKIntegralWholex12
import Derived.Test.YtkipnpgcpohlcaaKIntegralWholex13
namespace Go.Proofs.Ytkipnpgcpohlcaa.PIntegralWhole
open Go.RowKit Go.Proofs.YtkipnpgcpohlcaaW.PrintWords Go.Proofs.YtkipnpgcpohlcaaW.PrintLast Go.Proofs.YtkipnpgcpohlcaaW.PrintMore
attribute [local go_sem] max2_int min2_int max_two min_two max_three min_three max_four min_four   -- for this text's walks alone
set_option linter.unusedVariables false
set_option linter.unusedSimpArgs false
def tilefarmref13_Sum.j0 : Nat → Bool → Int → Int → Int → List Int → Int → Int → Int → Int → Option (Int × Int)
 | 0, _, _, _, _, _, _, _, _, _ => none
 | k + 1, x18, x374000, x374001, x374002, x374003, x375000, x375001, x375002, x375003 => if x18 = true then (some (0, 8)) else ((tilefarmref13_at.f x374000 x374001 x374002 x374003 (wrap64 (x375002 - 1)) (wrap64 (x375003 - 1))).bind fun t382 => ((tilefarmref13_at.f x374000 x374001 x374002 x374003 (wrap64 (x375000 - 1)) (wrap64 (x375003 - 1))).bind fun t383 => ((tilefarmref13_at.f x374000 x374001 x374002 x374003 (wrap64 (x375002 - 1)) (wrap64 (x375001 - 1))).bind fun t384 => ((tilefarmref13_at.f x374000 x374001 x374002 x374003 (wrap64 (x375000 - 1)) (wrap64 (x375001 - 1))).bind fun t385 => (some (wrap64 ((wrap64 ((wrap64 (t382 - t383)) - t384)) + t385), 0))))))
def tilefarmref13_Sum.f (k : Nat) (a0_0 : Int) (a0_1 : Int) (a0_2 : Int) (l0_3 : List Int) (a1_0 : Int) (a1_1 : Int) (a1_2 : Int) (a1_3 : Int) : Option (Int × Int) := (tilefarmref4_Valid.f k a0_0 a0_1 a0_2 l0_3).bind fun t375 => (if t375 = true then ((tilefarmref2_Full.f a1_0 a1_1 a1_2 a1_3).bind fun t376 => (if t376 = true then ((tilefarmref4_Cover.f a0_0 a0_1 a0_2 l0_3).bind fun bt377 => ((tilefarmref2_Inside.f a1_0 a1_1 a1_2 a1_3 bt377.1 bt377.2.1 bt377.2.2.1 bt377.2.2.2).bind fun t381 => (tilefarmref13_Sum.j0 k (!t381) a0_0 a0_1 a0_2 l0_3 a1_0 a1_1 a1_2 a1_3))) else (tilefarmref13_Sum.j0 k true a0_0 a0_1 a0_2 l0_3 a1_0 a1_1 a1_2 a1_3))) else (some (0, 1)))
theorem tilefarmref13_Sum.mono_l : ∀ k, (∀ y0 y1 y2 y3 y4 y5 y6 y7 y8, LeO (tilefarmref13_Sum.j0 k y0 y1 y2 y3 y4 y5 y6 y7 y8) (tilefarmref13_Sum.j0 (k + 1) y0 y1 y2 y3 y4 y5 y6 y7 y8))
 | 0 => fun _ _ _ _ _ _ _ _ _ r h => by simp [tilefarmref13_Sum.j0] at h
 | k + 1 => by
  have ih0 := tilefarmref13_Sum.mono_l k
  ·intro y0 y1 y2 y3 y4 y5 y6 y7 y8
   unfold tilefarmref13_Sum.j0
   repeat' first
   | (with_reducible exact ih0 _ _ _ _ _ _ _ _ _)
   | (with_reducible exact tilefarmref4_Valid.mono _ _ _ _ _)
   | (with_reducible exact LeO.refl _)
   | (with_reducible exact LeO.none _)
   | (with_reducible refine LeO.ite ?_ ?_)
   | (with_reducible refine LeO.bind ?_ (fun _ => ?_))
   | exact ih0 _ _ _ _ _ _ _ _ _
   | exact tilefarmref4_Valid.mono _ _ _ _ _
   | exact LeO.none _
   | refine LeO.ite ?_ ?_
   | refine LeO.bind ?_ (fun _ => ?_)
theorem tilefarmref13_Sum.mono : ∀ a0 a1 a2 a3 a4 a5 a6 a7 k, LeO (tilefarmref13_Sum.f k a0 a1 a2 a3 a4 a5 a6 a7) (tilefarmref13_Sum.f (k + 1) a0 a1 a2 a3 a4 a5 a6 a7) := by
 intro a0 a1 a2 a3 a4 a5 a6 a7 k; have ih0 := tilefarmref13_Sum.mono_l k; unfold tilefarmref13_Sum.f
 repeat' first
   | (with_reducible exact ih0 _ _ _ _ _ _ _ _ _)
   | (with_reducible exact tilefarmref4_Valid.mono _ _ _ _ _)
   | (with_reducible exact LeO.refl _)
   | (with_reducible exact LeO.none _)
   | (with_reducible refine LeO.ite ?_ ?_)
   | (with_reducible refine LeO.bind ?_ (fun _ => ?_))
   | exact ih0 _ _ _ _ _ _ _ _ _
   | exact tilefarmref4_Valid.mono _ _ _ _ _
   | exact LeO.none _
   | refine LeO.ite ?_ ?_
   | refine LeO.bind ?_ (fun _ => ?_)
def tilefarmref13_Sum.T3 : Bool × List (List Nat × List Nat) := (true, [([], []), ([0], [0]), ([1], [1]), ([2, 1], [2]), ([3], [3]), ([3], [3]), ([5, 3, 3], [3, 5]), ([4, 6, 6, 3], [3, 4, 6]), ([7, 3], [3, 7]), ([3, 8], [3, 8])])
def tilefarmref13_Sum.B3 : List Nat := [0, 1, 3, 7, 15, 15, 47, 127, 255, 511]
theorem tilefarmref13_Sum.tab3 : rtab .any (opsOf Try.f20 3) = tilefarmref13_Sum.T3 := by kernel_rfl
theorem tilefarmref13_Sum.bits3 : waitsOk tilefarmref13_Sum.T3.2 tilefarmref13_Sum.B3 = true := by kernel_rfl
def tilefarmref13_Sum.T5 : Bool × List (List Nat × List Nat) := (true, [([], []), ([], []), ([1], [1]), ([2], [2]), ([], []), ([4], [4]), ([5], [5]), ([0, 3, 6], [0, 3, 6]), ([], []), ([], []), ([9], [9]), ([10], [10]), ([], []), ([12], [12]), ([13], [13]), ([8, 11, 14, 7], [8, 11, 14]), ([7, 15], [7, 15]), ([], []), ([], []), ([18], [18]), ([19], [19]), ([], []), ([21], [21]), ([22], [22]), ([17, 20, 23, 15], [17, 20, 23]), ([16, 24], [16, 24]), ([], []), ([], []), ([27], [27]), ([28], [28]), ([], []), ([30], [30]), ([31], [31]), ([26, 29, 32, 24], [26, 29, 32]), ([25, 33], [25, 33]), ([34, 33, 0, 1, 2, 3, 4, 5, 6, 7, 8, 9, 10, 11, 12, 13, 14, 15, 16, 17, 18, 19, 20, 21, 22, 23, 24, 25, 26, 27, 28, 29, 30, 31, 32, 33, 34], [34]), ([35, 0, 1, 2, 3, 4, 5, 6, 7, 8, 9, 10, 11, 12, 13, 14, 15, 16, 17, 18, 19, 20, 21, 22, 23, 24, 25, 26, 27, 28, 29, 30, 31, 32, 33, 34, 35], [])])
def tilefarmref13_Sum.B5 : List Nat := [0, 0, 2, 6, 0, 16, 48, 127, 0, 0, 512, 1536, 0, 4096, 12288, 32767, 65535, 0, 0, 262144, 786432, 0, 2097152, 6291456, 16711679, 33554431, 0, 0, 134217728, 402653184, 0, 1073741824, 3221225472, 8556314623, 17179869183, 34359738367, 68719476735]
theorem tilefarmref13_Sum.tab5 : rtab .any (opsOf Try.f20 5) = tilefarmref13_Sum.T5 := by kernel_rfl
theorem tilefarmref13_Sum.bits5 : waitsOk tilefarmref13_Sum.T5.2 tilefarmref13_Sum.B5 = true := by kernel_rfl
set_option maxHeartbeats 8000000 in
set_option maxRecDepth 100000 in
theorem tilefarmref13_Sum.calls (k : Nat) (a0_0 : Int) (a0_1 : Int) (a0_2 : Int) (A0_3 : Option Addr) (c0_3 : Nat) (l0_3 : List Int) (a1_0 : Int) (a1_1 : Int) (a1_2 : Int) (a1_3 : Int) (r1 : Int) (r2 : Int) (w : World) (hr0_3 : Kd.C (Kd.int .i64) w A0_3 l0_3.length l0_3) (hc0_3 : l0_3.length ≤ c0_3) (h : tilefarmref13_Sum.f k a0_0 a0_1 a0_2 l0_3 a1_0 a1_1 a1_2 a1_3 = some (r1, r2)) :
  Calls Try.prog 20 #[.agg #[.int .i64 a0_0, .int .i64 a0_1, .int .i64 a0_2, .slice A0_3 l0_3.length c0_3], .agg #[.int .i64 a1_0, .int .i64 a1_1, .int .i64 a1_2, .int .i64 a1_3]] w fun e w' => e = .returned (.tuple #[.int .i64 r1, .int .i64 r2]) ∧ Below w.heap.size w w' := by
 have hu26 := Try.underlying26; have hu32 := Try.underlying32; have HR0_3 := am_ hr0_3; have HC0_3 := am_ hc0_3; clear hr0_3 hc0_3; have HB := am_ (Below.refl w.heap.size w); have H : ((tilefarmref4_Valid.f k a0_0 a0_1 a0_2 l0_3).bind fun t375 => (if t375 = true then ((tilefarmref2_Full.f a1_0 a1_1 a1_2 a1_3).bind fun t376 => (if t376 = true then ((tilefarmref4_Cover.f a0_0 a0_1 a0_2 l0_3).bind fun bt377 => ((tilefarmref2_Inside.f a1_0 a1_1 a1_2 a1_3 bt377.1 bt377.2.1 bt377.2.2.1 bt377.2.2.2).bind fun t381 => (tilefarmref13_Sum.j0 k (!t381) a0_0 a0_1 a0_2 l0_3 a1_0 a1_1 a1_2 a1_3))) else (tilefarmref13_Sum.j0 k true a0_0 a0_1 a0_2 l0_3 a1_0 a1_1 a1_2 a1_3))) else (some (0, 1)))) = some (r1, r2) := h; clear h; replace H := Option.bind_eq_some_iff.mp H; obtain ⟨t375, A30, H⟩ := H; replace H : (if t375 = true then ((tilefarmref2_Full.f a1_0 a1_1 a1_2 a1_3).bind fun t376 => (if t376 = true then ((tilefarmref4_Cover.f a0_0 a0_1 a0_2 l0_3).bind fun bt377 => ((tilefarmref2_Inside.f a1_0 a1_1 a1_2 a1_3 bt377.1 bt377.2.1 bt377.2.2.1 bt377.2.2.2).bind fun t381 => (tilefarmref13_Sum.j0 k (!t381) a0_0 a0_1 a0_2 l0_3 a1_0 a1_1 a1_2 a1_3))) else (tilefarmref13_Sum.j0 k true a0_0 a0_1 a0_2 l0_3 a1_0 a1_1 a1_2 a1_3))) else (some (0, 1))) = some (r1, r2) := H; have A3 := am_ A30; clear A30
 by_cases c4 : t375 = true
 ·subst c4
  have H1 : ((tilefarmref2_Full.f a1_0 a1_1 a1_2 a1_3).bind fun t376 => (if t376 = true then ((tilefarmref4_Cover.f a0_0 a0_1 a0_2 l0_3).bind fun bt377 => ((tilefarmref2_Inside.f a1_0 a1_1 a1_2 a1_3 bt377.1 bt377.2.1 bt377.2.2.1 bt377.2.2.2).bind fun t381 => (tilefarmref13_Sum.j0 k (!t381) a0_0 a0_1 a0_2 l0_3 a1_0 a1_1 a1_2 a1_3))) else (tilefarmref13_Sum.j0 k true a0_0 a0_1 a0_2 l0_3 a1_0 a1_1 a1_2 a1_3))) = some (r1, r2) := by rw [if_pos rfl] at H; exact H
  clear H; have H := H1; clear H1; have HC5 := am_ H; clear H
  go_enter Try.func20, Try.ntmps20
  go_upto_region 3 with (first | ((with_reducible refine gate_dst (N := 2) rfl ?_); refine box_event ?hg (N := 2) ?hd (cs := #[.int .i64 a0_0, .int .i64 a0_1, .int .i64 a0_2, .slice A0_3 l0_3.length c0_3]) (t := 26) ?hr ?_; (case hd => rfl); (case hg => rfl); (case hr => first | (go_simp; done) | (go_simp; rfl)); intro gb373 hg w6 hbox hb; have n0_ := am_ (below_step q143_ hb); have n1_ := am_ (hbox); have n2_ := am_ ((q108_ : w.heap.size ≤ gb373)); have n3_ := am_ ((q108_ : w.heap.size ≤ gb373)); clear HB; have HB := n0_; have BK373 := n1_; have GW373 := n2_; have GE373 := n3_; clear n0_ n1_ n2_ n3_; clear hb hbox hg) | ((with_reducible refine gate_dst (N := 3) rfl ?_); refine box_event ?hg (N := 3) ?hd (cs := #[.int .i64 a1_0, .int .i64 a1_1, .int .i64 a1_2, .int .i64 a1_3]) (t := 32) ?hr ?_; (case hd => rfl); (case hg => rfl); (case hr => first | (go_simp; done) | (go_simp; rfl)); intro gb374 hg w7 hbox hb; have n0_ := am_ (blk_below (g := gb373) (o := .cells #[.int .i64 a0_0, .int .i64 a0_1, .int .i64 a0_2, .slice A0_3 l0_3.length c0_3] 26 (0, 0)) q181_ hb); have n1_ := am_ (below_step q132_ hb); have n2_ := am_ (hbox); have n3_ := am_ ((q88_ : w.heap.size ≤ gb374)); have n4_ := am_ ((q88_ : w.heap.size ≤ gb374)); have n5_ := am_ ((by rw [hg]; exact Nat.ne_of_lt (blk_lt (g := gb373) (o := .cells #[.int .i64 a0_0, .int .i64 a0_1, .int .i64 a0_2, .slice A0_3 l0_3.length c0_3] 26 (0, 0)) q181_) : gb373 ≠ gb374)); have n6_ := am_ ((by rw [hg]; exact Nat.ne_of_gt (blk_lt (g := gb373) (o := .cells #[.int .i64 a0_0, .int .i64 a0_1, .int .i64 a0_2, .slice A0_3 l0_3.length c0_3] 26 (0, 0)) q181_) : gb374 ≠ gb373)); clear BK373 HB; have BK373 := n0_; have HB := n1_; have BK374 := n2_; have GW374 := n3_; have GE374 := n4_; have NB373_374 := n5_; have NB374_373 := n6_; clear n0_ n1_ n2_ n3_ n4_ n5_ n6_; clear hb hbox hg; have hnb8 := NB373_374.out; have hnc8 := NB374_373.out; have hcz9_0 := bc0_ BK373.out; have hcz9_1 := bc1_ BK373.out; have hcz9_2 := bc2_ BK373.out; have hcz9_3 := bc3_ BK373.out; have hfz9_0 := blk_frozen BK373.out 0; have hfz9_1 := blk_frozen BK373.out 1; have hfz9_2 := blk_frozen BK373.out 2; have hfz9_3 := blk_frozen BK373.out 3) | ((with_reducible refine gate_callee (f := 39) rfl ?_); refine goesL_ (some 7) rfl rfl Try.func39 (by kernel_rfl) rfl #[.agg #[.int .i64 a0_0, .int .i64 a0_1, .int .i64 a0_2, .slice A0_3 l0_3.length c0_3]] rfl q140_ ?_; (with_reducible refine (tilefarmref4_Valid.calls k a0_0 a0_1 a0_2 _ _ l0_3 true _ ?side1 ?side2 A3.out).mono ?_); (case side1 => repeat (first | exact (Kd.C_below HR0_3.out HB.out) | (with_reducible refine Kd.C_alloc ?_ _) | (with_reducible refine Kd.C_drewN ?_ _) | (with_reducible refine Kd.C_drew ?_))); (case side2 => exact HC0_3.out); rintro e w10 ⟨rfl, hb⟩; refine ⟨_, rfl, ?_⟩; have n0_ := am_ (blk_below (g := gb373) (o := .cells #[.int .i64 a0_0, .int .i64 a0_1, .int .i64 a0_2, .slice A0_3 l0_3.length c0_3] 26 (0, 0)) q181_ hb); have n1_ := am_ (blk_below (g := gb374) (o := .cells #[.int .i64 a1_0, .int .i64 a1_1, .int .i64 a1_2, .int .i64 a1_3] 32 (0, 0)) q182_ hb); have n2_ := am_ (below_step q98_ hb); clear BK373 BK374 HB; have BK373 := n0_; have BK374 := n1_; have HB := n2_; clear n0_ n1_ n2_; (try clear hb); (try clear hb2); (try clear hk); (try clear hi)))
  (try simp only [Act.put, la_, lz_, ls_])
  go_cut [18] (fun v18 wc => ∃ (kq : Nat) (x18_4 : Bool), v18 = .bool x18_4 ∧ Aside0 (tilefarmref13_Sum.j0 kq x18_4 a0_0 a0_1 a0_2 l0_3 a1_0 a1_1 a1_2 a1_3 = some (r1, r2)) ∧ Aside0 (kq ≤ k) ∧ Aside0 (wc.heap[gb373]? = some (.cells #[.int .i64 a0_0, .int .i64 a0_1, .int .i64 a0_2, (.slice A0_3 l0_3.length c0_3)] 26 (0, 0))) ∧ Aside0 (wc.heap[gb374]? = some (.cells #[.int .i64 a1_0, .int .i64 a1_1, .int .i64 a1_2, .int .i64 a1_3] 32 (0, 0))) ∧ Aside0 (Below w.heap.size w wc))
  case first =>
   have H := HC5.out; clear HC5; replace H := Option.bind_eq_some_iff.mp H; obtain ⟨t376, A110, H⟩ := H; replace H : (if t376 = true then ((tilefarmref4_Cover.f a0_0 a0_1 a0_2 l0_3).bind fun bt377 => ((tilefarmref2_Inside.f a1_0 a1_1 a1_2 a1_3 bt377.1 bt377.2.1 bt377.2.2.1 bt377.2.2.2).bind fun t381 => (tilefarmref13_Sum.j0 k (!t381) a0_0 a0_1 a0_2 l0_3 a1_0 a1_1 a1_2 a1_3))) else (tilefarmref13_Sum.j0 k true a0_0 a0_1 a0_2 l0_3 a1_0 a1_1 a1_2 a1_3)) = some (r1, r2) := H; have A11 := am_ A110; clear A110
   by_cases c12 : t376 = true
   ·subst c12
    have H1 : ((tilefarmref4_Cover.f a0_0 a0_1 a0_2 l0_3).bind fun bt377 => ((tilefarmref2_Inside.f a1_0 a1_1 a1_2 a1_3 bt377.1 bt377.2.1 bt377.2.2.1 bt377.2.2.2).bind fun t381 => (tilefarmref13_Sum.j0 k (!t381) a0_0 a0_1 a0_2 l0_3 a1_0 a1_1 a1_2 a1_3))) = some (r1, r2) := by rw [if_pos rfl] at H; exact H
    clear H; have H := H1; clear H1; replace H := Option.bind_eq_some_iff.mp H; obtain ⟨⟨t377, t378, t379, t380⟩, A130, H⟩ := H; replace H : ((tilefarmref2_Inside.f a1_0 a1_1 a1_2 a1_3 t377 t378 t379 t380).bind fun t381 => (tilefarmref13_Sum.j0 k (!t381) a0_0 a0_1 a0_2 l0_3 a1_0 a1_1 a1_2 a1_3)) = some (r1, r2) := H; have A13 := am_ A130; clear A130; replace H := Option.bind_eq_some_iff.mp H; obtain ⟨t381, A140, H⟩ := H; replace H : (tilefarmref13_Sum.j0 k (!t381) a0_0 a0_1 a0_2 l0_3 a1_0 a1_1 a1_2 a1_3) = some (r1, r2) := H; have A14 := am_ A140; clear A140; have H' := am_ H; clear H
    try go_wp2
    have n0_ := am_ (blk_drew BK373.out); have n1_ := am_ (blk_drew BK374.out); have n2_ := am_ (below_drew1 HB.out); clear BK373 BK374 HB; have BK373 := n0_; have BK374 := n1_; have HB := n2_; clear n0_ n1_ n2_; refine start_ (n := 10) (S := fun w' => w'.cell? ⟨gb374, 0, none⟩ = some (.int .i64 a1_0) ∧ w'.cell? ⟨gb374, 1, none⟩ = some (.int .i64 a1_1) ∧ w'.cell? ⟨gb374, 2, none⟩ = some (.int .i64 a1_2) ∧ w'.cell? ⟨gb374, 3, none⟩ = some (.int .i64 a1_3) ∧ w'.cell? ⟨gb373, 0, none⟩ = some (.int .i64 a0_0) ∧ w'.cell? ⟨gb373, 1, none⟩ = some (.int .i64 a0_1) ∧ w'.cell? ⟨gb373, 2, none⟩ = some (.int .i64 a0_2) ∧ w'.cell? ⟨gb373, 3, none⟩ = some (.slice A0_3 l0_3.length c0_3)) (ds := []) #[F_, F_, F_, F_, F_, F_, F_, F_, F_, F_] (by kernel_rfl) rfl rfl ⟨bc0_ BK374.out, bc1_ BK374.out, bc2_ BK374.out, bc3_ BK374.out, bc0_ BK373.out, bc1_ BK373.out, bc2_ BK373.out, bc3_ BK373.out⟩ (fun hHeld => ?_); refine with_tabW tilefarmref13_Sum.tab3 tilefarmref13_Sum.bits3 (fun HT_ HW_ => ?_); generalize w10.drew = w15 at BK373 BK374 HB hHeld ⊢; refine take_ (i := 0) (N := some 9) (v := ?_) (a' := ?_) #[T_, F_, F_, F_, F_, F_, F_, F_, F_, F_] rfl rfl (take_ofW HT_.out HW_.out (by kernel_rfl)) (fun _ _ _ h => h) (Or.inl ⟨by rfl, ?_⟩) hHeld ?_ ?_; rotate_left
    ·rintro w' ⟨s0, s1, s2, s3, s4, s5, s6, s7⟩
     go_simp
     with_reducible rfl
    rotate_left
    ·simp only [Act.put, la_, lz_, ls_, i64_w, i32_w]
     rfl
    refine one_ (i := 1) (N := some 10) #[T_, T_, F_, F_, F_, F_, F_, F_, F_, F_] rfl rfl (one_of HT_.out (by kernel_rfl)) (by decide) (fun K hK => ?_); refine goes_ Try.func40 (by kernel_rfl) rfl #[.agg #[.int .i64 a1_0, .int .i64 a1_1, .int .i64 a1_2, .int .i64 a1_3]] (by rfl) rfl rfl q140_ ?_
    with_reducible refine (tilefarmref2_Full.calls a1_0 a1_1 a1_2 a1_3 true _ A11.out).mono ?_
    rintro e w16 ⟨rfl, hb⟩; refine ⟨_, rfl, ?_⟩; have n0_ := am_ (blk_below (g := gb373) (o := .cells #[.int .i64 a0_0, .int .i64 a0_1, .int .i64 a0_2, .slice A0_3 l0_3.length c0_3] 26 (0, 0)) q181_ hb); have n1_ := am_ (blk_below (g := gb374) (o := .cells #[.int .i64 a1_0, .int .i64 a1_1, .int .i64 a1_2, .int .i64 a1_3] 32 (0, 0)) q182_ hb); have n2_ := am_ (below_step q98_ hb); clear BK373 BK374 HB; have BK373 := n0_; have BK374 := n1_; have HB := n2_; clear n0_ n1_ n2_; (try clear hb); (try clear hb2); (try clear hk); (try clear hi); refine hK.out _ _ ⟨bc0_ BK374.out, bc1_ BK374.out, bc2_ BK374.out, bc3_ BK374.out, bc0_ BK373.out, bc1_ BK373.out, bc2_ BK373.out, bc3_ BK373.out⟩ (fun hHeld => ?_); clear hK K; refine norm_ (a' := ?_) ?_ ?_; rotate_left
    ·show Act.put _ (some 10) _ = _
     simp only [Act.put, la_, lz_, ls_, i64_w, i32_w]; rfl
    refine pure_ (i := 2) (N := some 11) (v := ?_) (a' := ?_) #[T_, T_, T_, F_, F_, F_, F_, F_, F_, F_] rfl rfl (any_of HT_.out (by kernel_rfl)) (fun _ _ _ h => h) (Or.inl ⟨by rfl, ?_⟩) ?_ ?_; rotate_left
    ·intro w'
     go_simp
     with_reducible rfl
    rotate_left
    ·simp only [Act.put, la_, lz_, ls_, i64_w, i32_w]
     rfl
    refine pure_ (i := 3) (N := some 12) (v := ?_) (a' := ?_) #[T_, T_, T_, T_, F_, F_, F_, F_, F_, F_] rfl rfl (any_of HT_.out (by kernel_rfl)) (fun _ _ _ h => h) (Or.inl ⟨by rfl, ?_⟩) ?_ ?_; rotate_left
    ·intro w'
     go_simp
     with_reducible rfl
    rotate_left
    ·simp only [Act.put, la_, lz_, ls_, i64_w, i32_w]
     rfl
    refine take_ (i := 4) (N := some 13) (v := ?_) (a' := ?_) #[T_, T_, T_, T_, T_, F_, F_, F_, F_, F_] rfl rfl (take_ofW HT_.out HW_.out (by kernel_rfl)) (fun _ _ _ h => h) (Or.inl ⟨by rfl, ?_⟩) hHeld ?_ ?_; rotate_left
    ·rintro w' ⟨s0, s1, s2, s3, s4, s5, s6, s7⟩
     go_simp
     with_reducible rfl
    rotate_left
    ·simp only [Act.put, la_, lz_, ls_, i64_w, i32_w]
     rfl
    refine take_ (i := 5) (N := some 14) (v := ?_) (a' := ?_) #[T_, T_, T_, T_, T_, T_, F_, F_, F_, F_] rfl rfl (take_ofW HT_.out HW_.out (by kernel_rfl)) (fun _ _ _ h => h) (Or.inl ⟨by rfl, ?_⟩) hHeld ?_ ?_; rotate_left
    ·rintro w' ⟨s0, s1, s2, s3, s4, s5, s6, s7⟩
     go_simp
     with_reducible rfl
    rotate_left
    ·simp only [Act.put, la_, lz_, ls_, i64_w, i32_w]
     rfl
    refine one_ (i := 6) (N := some 15) #[T_, T_, T_, T_, T_, T_, T_, F_, F_, F_] rfl rfl (one_of HT_.out (by kernel_rfl)) (by decide) (fun K hK => ?_); refine goes_ Try.func42 (by kernel_rfl) rfl #[.agg #[.int .i64 a0_0, .int .i64 a0_1, .int .i64 a0_2, .slice A0_3 l0_3.length c0_3]] (by rfl) rfl rfl q140_ ?_
    with_reducible refine (tilefarmref4_Cover.calls a0_0 a0_1 a0_2 _ _ l0_3 t377 t378 t379 t380 _ ?side1 ?side2 A13.out).mono ?_
    (case side1 => repeat (first | exact (Kd.C_below HR0_3.out HB.out) | (with_reducible refine Kd.C_alloc ?_ _) | (with_reducible refine Kd.C_drewN ?_ _) | (with_reducible refine Kd.C_drew ?_))); (case side2 => exact HC0_3.out); rintro e w17 ⟨rfl, hb⟩; refine ⟨_, rfl, ?_⟩; have n0_ := am_ (blk_below (g := gb373) (o := .cells #[.int .i64 a0_0, .int .i64 a0_1, .int .i64 a0_2, .slice A0_3 l0_3.length c0_3] 26 (0, 0)) q181_ hb); have n1_ := am_ (blk_below (g := gb374) (o := .cells #[.int .i64 a1_0, .int .i64 a1_1, .int .i64 a1_2, .int .i64 a1_3] 32 (0, 0)) q182_ hb); have n2_ := am_ (below_step q98_ hb); clear BK373 BK374 HB; have BK373 := n0_; have BK374 := n1_; have HB := n2_; clear n0_ n1_ n2_; (try clear hb); (try clear hb2); (try clear hk); (try clear hi); refine hK.out _ _ ⟨bc0_ BK374.out, bc1_ BK374.out, bc2_ BK374.out, bc3_ BK374.out, bc0_ BK373.out, bc1_ BK373.out, bc2_ BK373.out, bc3_ BK373.out⟩ (fun hHeld => ?_); clear hK K; refine norm_ (a' := ?_) ?_ ?_; rotate_left
    ·show Act.put _ (some 15) _ = _
     simp only [Act.put, la_, lz_, ls_, i64_w, i32_w]; rfl
    refine one_ (i := 7) (N := some 16) #[T_, T_, T_, T_, T_, T_, T_, T_, F_, F_] rfl rfl (one_of HT_.out (by kernel_rfl)) (by decide) (fun K hK => ?_); refine goes_ Try.func41 (by kernel_rfl) rfl #[.agg #[.int .i64 a1_0, .int .i64 a1_1, .int .i64 a1_2, .int .i64 a1_3], .agg #[.int .i64 t377, .int .i64 t378, .int .i64 t379, .int .i64 t380]] (by rfl) rfl rfl q140_ ?_
    with_reducible refine (tilefarmref2_Inside.calls a1_0 a1_1 a1_2 a1_3 t377 t378 t379 t380 t381 _ A14.out).mono ?_
    rintro e w18 ⟨rfl, hb⟩; refine ⟨_, rfl, ?_⟩; have n0_ := am_ (blk_below (g := gb373) (o := .cells #[.int .i64 a0_0, .int .i64 a0_1, .int .i64 a0_2, .slice A0_3 l0_3.length c0_3] 26 (0, 0)) q181_ hb); have n1_ := am_ (blk_below (g := gb374) (o := .cells #[.int .i64 a1_0, .int .i64 a1_1, .int .i64 a1_2, .int .i64 a1_3] 32 (0, 0)) q182_ hb); have n2_ := am_ (below_step q98_ hb); clear BK373 BK374 HB; have BK373 := n0_; have BK374 := n1_; have HB := n2_; clear n0_ n1_ n2_; (try clear hb); (try clear hb2); (try clear hk); (try clear hi); refine hK.out _ _ ⟨bc0_ BK374.out, bc1_ BK374.out, bc2_ BK374.out, bc3_ BK374.out, bc0_ BK373.out, bc1_ BK373.out, bc2_ BK373.out, bc3_ BK373.out⟩ (fun hHeld => ?_); clear hK K; refine norm_ (a' := ?_) ?_ ?_; rotate_left
    ·show Act.put _ (some 16) _ = _
     simp only [Act.put, la_, lz_, ls_, i64_w, i32_w]; rfl
    refine pure_ (i := 8) (N := some 17) (v := ?_) (a' := ?_) #[T_, T_, T_, T_, T_, T_, T_, T_, T_, F_] rfl rfl (any_of HT_.out (by kernel_rfl)) (fun _ _ _ h => h) (Or.inl ⟨by rfl, ?_⟩) ?_ ?_; rotate_left
    ·intro w'
     go_simp
     with_reducible rfl
    rotate_left
    ·simp only [Act.put, la_, lz_, ls_, i64_w, i32_w]
     rfl
    refine pure_ (i := 9) (N := some 18) (v := ?_) (a' := ?_) #[T_, T_, T_, T_, T_, T_, T_, T_, T_, T_] rfl rfl (any_of HT_.out (by kernel_rfl)) (fun _ _ _ h => h) (Or.inl ⟨by rfl, ?_⟩) ?_ ?_; rotate_left
    ·intro w'
     go_simp
     with_reducible rfl
    rotate_left
    ·simp only [Act.put, la_, lz_, ls_, i64_w, i32_w]
     rfl
    refine done_ (done_of HT_.out (by kernel_rfl)) ?_
    try go_wp2
    go_meet
    case rel => exact ⟨_, (!t381), q217_, H', ⟨by first | omega | exact Nat.le_refl _⟩, ⟨q181_⟩, ⟨q182_⟩, ⟨q98_⟩⟩
   ·replace c12 := Bool.eq_false_iff.mpr c12
    subst c12; have H1 : (tilefarmref13_Sum.j0 k true a0_0 a0_1 a0_2 l0_3 a1_0 a1_1 a1_2 a1_3) = some (r1, r2) := by rw [if_neg (show ¬ (false = true) by decide)] at H; exact H
    clear H; have H := H1; clear H1; have H' := am_ H; clear H
    try go_wp2
    have n0_ := am_ (blk_drew BK373.out); have n1_ := am_ (blk_drew BK374.out); have n2_ := am_ (below_drew1 HB.out); clear BK373 BK374 HB; have BK373 := n0_; have BK374 := n1_; have HB := n2_; clear n0_ n1_ n2_; refine start_ (n := 10) (S := fun w' => w'.cell? ⟨gb374, 0, none⟩ = some (.int .i64 a1_0) ∧ w'.cell? ⟨gb374, 1, none⟩ = some (.int .i64 a1_1) ∧ w'.cell? ⟨gb374, 2, none⟩ = some (.int .i64 a1_2) ∧ w'.cell? ⟨gb374, 3, none⟩ = some (.int .i64 a1_3)) (ds := []) #[F_, F_, F_, F_, F_, F_, F_, F_, F_, F_] (by kernel_rfl) rfl rfl ⟨bc0_ BK374.out, bc1_ BK374.out, bc2_ BK374.out, bc3_ BK374.out⟩ (fun hHeld => ?_); refine with_tabW tilefarmref13_Sum.tab3 tilefarmref13_Sum.bits3 (fun HT_ HW_ => ?_); generalize w10.drew = w19 at BK373 BK374 HB hHeld ⊢; refine take_ (i := 0) (N := some 9) (v := ?_) (a' := ?_) #[T_, F_, F_, F_, F_, F_, F_, F_, F_, F_] rfl rfl (take_ofW HT_.out HW_.out (by kernel_rfl)) (fun _ _ _ h => h) (Or.inl ⟨by rfl, ?_⟩) hHeld ?_ ?_; rotate_left
    ·rintro w' ⟨s0, s1, s2, s3⟩
     go_simp
     with_reducible rfl
    rotate_left
    ·simp only [Act.put, la_, lz_, ls_, i64_w, i32_w]
     rfl
    refine one_ (i := 1) (N := some 10) #[T_, T_, F_, F_, F_, F_, F_, F_, F_, F_] rfl rfl (one_of HT_.out (by kernel_rfl)) (by decide) (fun K hK => ?_); refine goes_ Try.func40 (by kernel_rfl) rfl #[.agg #[.int .i64 a1_0, .int .i64 a1_1, .int .i64 a1_2, .int .i64 a1_3]] (by rfl) rfl rfl q140_ ?_
    with_reducible refine (tilefarmref2_Full.calls a1_0 a1_1 a1_2 a1_3 false _ A11.out).mono ?_
    rintro e w20 ⟨rfl, hb⟩; refine ⟨_, rfl, ?_⟩; have n0_ := am_ (blk_below (g := gb373) (o := .cells #[.int .i64 a0_0, .int .i64 a0_1, .int .i64 a0_2, .slice A0_3 l0_3.length c0_3] 26 (0, 0)) q181_ hb); have n1_ := am_ (blk_below (g := gb374) (o := .cells #[.int .i64 a1_0, .int .i64 a1_1, .int .i64 a1_2, .int .i64 a1_3] 32 (0, 0)) q182_ hb); have n2_ := am_ (below_step q98_ hb); clear BK373 BK374 HB; have BK373 := n0_; have BK374 := n1_; have HB := n2_; clear n0_ n1_ n2_; (try clear hb); (try clear hb2); (try clear hk); (try clear hi); refine hK.out _ _ ⟨bc0_ BK374.out, bc1_ BK374.out, bc2_ BK374.out, bc3_ BK374.out⟩ (fun hHeld => ?_); clear hK K; refine norm_ (a' := ?_) ?_ ?_; rotate_left
    ·show Act.put _ (some 10) _ = _
     simp only [Act.put, la_, lz_, ls_, i64_w, i32_w]; rfl
    refine pure_ (i := 2) (N := some 11) (v := ?_) (a' := ?_) #[T_, T_, T_, F_, F_, F_, F_, F_, F_, F_] rfl rfl (any_of HT_.out (by kernel_rfl)) (fun _ _ _ h => h) (Or.inl ⟨by rfl, ?_⟩) ?_ ?_; rotate_left
    ·intro w'
     go_simp
     with_reducible rfl
    rotate_left
    ·simp only [Act.put, la_, lz_, ls_, i64_w, i32_w]
     rfl
    refine pure_ (i := 3) (N := some 12) (v := ?_) (a' := ?_) #[T_, T_, T_, T_, F_, F_, F_, F_, F_, F_] rfl rfl (any_of HT_.out (by kernel_rfl)) (fun _ _ _ h => h) (Or.inl ⟨by rfl, ?_⟩) ?_ ?_; rotate_left
    ·intro w'
     go_simp
     with_reducible rfl
    rotate_left
    ·simp only [Act.put, la_, lz_, ls_, i64_w, i32_w]
     rfl
    refine pure_ (i := 4) (N := some 13) (v := undef) (a' := ?_) #[T_, T_, T_, T_, T_, F_, F_, F_, F_, F_] rfl rfl (any_of HT_.out (by kernel_rfl)) (fun _ _ _ h => h) (Or.inr ⟨by rfl, rfl⟩) ?_ ?_; rotate_left
    ·simp only [Act.put, la_, lz_, ls_, i64_w, i32_w]
     rfl
    refine pure_ (i := 5) (N := some 14) (v := undef) (a' := ?_) #[T_, T_, T_, T_, T_, T_, F_, F_, F_, F_] rfl rfl (any_of HT_.out (by kernel_rfl)) (fun _ _ _ h => h) (Or.inr ⟨by rfl, rfl⟩) ?_ ?_; rotate_left
    ·simp only [Act.put, la_, lz_, ls_, i64_w, i32_w]
     rfl
    refine pure_ (i := 6) (N := some 15) (v := undef) (a' := ?_) #[T_, T_, T_, T_, T_, T_, T_, F_, F_, F_] rfl rfl (any_of HT_.out (by kernel_rfl)) (fun _ _ _ h => h) (Or.inr ⟨by rfl, rfl⟩) ?_ ?_; rotate_left
    ·simp only [Act.put, la_, lz_, ls_, i64_w, i32_w]
     rfl
    refine pure_ (i := 7) (N := some 16) (v := undef) (a' := ?_) #[T_, T_, T_, T_, T_, T_, T_, T_, F_, F_] rfl rfl (any_of HT_.out (by kernel_rfl)) (fun _ _ _ h => h) (Or.inr ⟨by rfl, rfl⟩) ?_ ?_; rotate_left
    ·simp only [Act.put, la_, lz_, ls_, i64_w, i32_w]
     rfl
    refine pure_ (i := 8) (N := some 17) (v := undef) (a' := ?_) #[T_, T_, T_, T_, T_, T_, T_, T_, T_, F_] rfl rfl (any_of HT_.out (by kernel_rfl)) (fun _ _ _ h => h) (Or.inr ⟨by rfl, rfl⟩) ?_ ?_; rotate_left
    ·simp only [Act.put, la_, lz_, ls_, i64_w, i32_w]
     rfl
    refine pure_ (i := 9) (N := some 18) (v := ?_) (a' := ?_) #[T_, T_, T_, T_, T_, T_, T_, T_, T_, T_] rfl rfl (any_of HT_.out (by kernel_rfl)) (fun _ _ _ h => h) (Or.inl ⟨by rfl, ?_⟩) ?_ ?_; rotate_left
    ·intro w'
     go_simp
     with_reducible rfl
    rotate_left
    ·simp only [Act.put, la_, lz_, ls_, i64_w, i32_w]
     rfl
    refine done_ (done_of HT_.out (by kernel_rfl)) ?_
    try go_wp2
    go_meet
    case rel => exact ⟨_, (true), q217_, H', ⟨by first | omega | exact Nat.le_refl _⟩, ⟨q181_⟩, ⟨q182_⟩, ⟨q98_⟩⟩
  case rest =>
   clear HC5; (try clear c1); (try clear c2); (try clear p2); (try clear c3); (try clear c4); (try clear c8); (try clear c12); (try clear c20); (try clear hcz9_0 hcz9_1 hcz9_2 hcz9_3); (try clear hfz9_0 hfz9_1 hfz9_2 hfz9_3); obtain ⟨kq, x18_4, rfl, HA, HJ4, BK373, BK374, HB⟩ := hcut; cases kq with
   | zero => exact absurd HA.out (by simp [tilefarmref13_Sum.j0])
   | succ kj4 =>
    have H := HA.out; clear HA; simp only [tilefarmref13_Sum.j0] at H
    by_cases c21 : x18_4 = true
    ·subst c21
     have H1 : (some (0, 8)) = some (r1, r2) := by rw [if_pos rfl] at H; exact H
     clear H; have H := H1; clear H1; simp only [Option.some.injEq, Prod.mk.injEq] at H; obtain ⟨rfl, rfl⟩ := H
     go_wp2
     go_ret2
     exact ⟨q211_, q98_⟩
    ·replace c21 := Bool.eq_false_iff.mpr c21
     subst c21; have H1 : ((tilefarmref13_at.f a0_0 a0_1 a0_2 l0_3 (wrap64 (a1_2 - 1)) (wrap64 (a1_3 - 1))).bind fun t382 => ((tilefarmref13_at.f a0_0 a0_1 a0_2 l0_3 (wrap64 (a1_0 - 1)) (wrap64 (a1_3 - 1))).bind fun t383 => ((tilefarmref13_at.f a0_0 a0_1 a0_2 l0_3 (wrap64 (a1_2 - 1)) (wrap64 (a1_1 - 1))).bind fun t384 => ((tilefarmref13_at.f a0_0 a0_1 a0_2 l0_3 (wrap64 (a1_0 - 1)) (wrap64 (a1_1 - 1))).bind fun t385 => (some (wrap64 ((wrap64 ((wrap64 (t382 - t383)) - t384)) + t385), 0)))))) = some (r1, r2) := by rw [if_neg (show ¬ (false = true) by decide)] at H; exact H
     clear H; have H := H1; clear H1; replace H := Option.bind_eq_some_iff.mp H; obtain ⟨t382, A220, H⟩ := H; replace H : ((tilefarmref13_at.f a0_0 a0_1 a0_2 l0_3 (wrap64 (a1_0 - 1)) (wrap64 (a1_3 - 1))).bind fun t383 => ((tilefarmref13_at.f a0_0 a0_1 a0_2 l0_3 (wrap64 (a1_2 - 1)) (wrap64 (a1_1 - 1))).bind fun t384 => ((tilefarmref13_at.f a0_0 a0_1 a0_2 l0_3 (wrap64 (a1_0 - 1)) (wrap64 (a1_1 - 1))).bind fun t385 => (some (wrap64 ((wrap64 ((wrap64 (t382 - t383)) - t384)) + t385), 0))))) = some (r1, r2) := H; have A22 := am_ A220; clear A220; replace H := Option.bind_eq_some_iff.mp H; obtain ⟨t383, A230, H⟩ := H; replace H : ((tilefarmref13_at.f a0_0 a0_1 a0_2 l0_3 (wrap64 (a1_2 - 1)) (wrap64 (a1_1 - 1))).bind fun t384 => ((tilefarmref13_at.f a0_0 a0_1 a0_2 l0_3 (wrap64 (a1_0 - 1)) (wrap64 (a1_1 - 1))).bind fun t385 => (some (wrap64 ((wrap64 ((wrap64 (t382 - t383)) - t384)) + t385), 0)))) = some (r1, r2) := H; have A23 := am_ A230; clear A230; replace H := Option.bind_eq_some_iff.mp H; obtain ⟨t384, A240, H⟩ := H; replace H : ((tilefarmref13_at.f a0_0 a0_1 a0_2 l0_3 (wrap64 (a1_0 - 1)) (wrap64 (a1_1 - 1))).bind fun t385 => (some (wrap64 ((wrap64 ((wrap64 (t382 - t383)) - t384)) + t385), 0))) = some (r1, r2) := H; have A24 := am_ A240; clear A240; replace H := Option.bind_eq_some_iff.mp H; obtain ⟨t385, A250, H⟩ := H; replace H : (some (wrap64 ((wrap64 ((wrap64 (t382 - t383)) - t384)) + t385), 0)) = some (r1, r2) := H; have A25 := am_ A250; clear A250; simp only [Option.some.injEq, Prod.mk.injEq] at H; obtain ⟨rfl, rfl⟩ := H
     try go_wp2
     have n0_ := am_ (blk_drew BK373.out); have n1_ := am_ (blk_drew BK374.out); have n2_ := am_ (below_drew1 HB.out); clear BK373 BK374 HB; have BK373 := n0_; have BK374 := n1_; have HB := n2_; clear n0_ n1_ n2_; refine start_ (n := 37) (S := fun w' => w'.cell? ⟨gb373, 0, none⟩ = some (.int .i64 a0_0) ∧ w'.cell? ⟨gb373, 1, none⟩ = some (.int .i64 a0_1) ∧ w'.cell? ⟨gb373, 2, none⟩ = some (.int .i64 a0_2) ∧ w'.cell? ⟨gb373, 3, none⟩ = some (.slice A0_3 l0_3.length c0_3) ∧ w'.cell? ⟨gb374, 0, none⟩ = some (.int .i64 a1_0) ∧ w'.cell? ⟨gb374, 1, none⟩ = some (.int .i64 a1_1) ∧ w'.cell? ⟨gb374, 2, none⟩ = some (.int .i64 a1_2) ∧ w'.cell? ⟨gb374, 3, none⟩ = some (.int .i64 a1_3)) (ds := []) #[F_, F_, F_, F_, F_, F_, F_, F_, F_, F_, F_, F_, F_, F_, F_, F_, F_, F_, F_, F_, F_, F_, F_, F_, F_, F_, F_, F_, F_, F_, F_, F_, F_, F_, F_, F_, F_] (by kernel_rfl) rfl rfl ⟨bc0_ BK373.out, bc1_ BK373.out, bc2_ BK373.out, bc3_ BK373.out, bc0_ BK374.out, bc1_ BK374.out, bc2_ BK374.out, bc3_ BK374.out⟩ (fun hHeld => ?_); refine with_tabW tilefarmref13_Sum.tab5 tilefarmref13_Sum.bits5 (fun HT_ HW_ => ?_); generalize wc.drew = w26 at BK373 BK374 HB hHeld ⊢; refine pure_ (i := 1) (N := some 20) (v := ?_) (a' := ?_) #[F_, T_, F_, F_, F_, F_, F_, F_, F_, F_, F_, F_, F_, F_, F_, F_, F_, F_, F_, F_, F_, F_, F_, F_, F_, F_, F_, F_, F_, F_, F_, F_, F_, F_, F_, F_, F_] rfl rfl (any_of HT_.out (by kernel_rfl)) (fun _ _ _ h => h) (Or.inl ⟨by rfl, ?_⟩) ?_ ?_; rotate_left
     ·intro w'
      go_simp
      with_reducible rfl
     rotate_left
     ·simp only [Act.put, la_, lz_, ls_, i64_w, i32_w]
      rfl
     refine pure_ (i := 4) (N := some 23) (v := ?_) (a' := ?_) #[F_, T_, F_, F_, T_, F_, F_, F_, F_, F_, F_, F_, F_, F_, F_, F_, F_, F_, F_, F_, F_, F_, F_, F_, F_, F_, F_, F_, F_, F_, F_, F_, F_, F_, F_, F_, F_] rfl rfl (any_of HT_.out (by kernel_rfl)) (fun _ _ _ h => h) (Or.inl ⟨by rfl, ?_⟩) ?_ ?_; rotate_left
     ·intro w'
      go_simp
      with_reducible rfl
     rotate_left
     ·simp only [Act.put, la_, lz_, ls_, i64_w, i32_w]
      rfl
     refine pure_ (i := 9) (N := some 28) (v := ?_) (a' := ?_) #[F_, T_, F_, F_, T_, F_, F_, F_, F_, T_, F_, F_, F_, F_, F_, F_, F_, F_, F_, F_, F_, F_, F_, F_, F_, F_, F_, F_, F_, F_, F_, F_, F_, F_, F_, F_, F_] rfl rfl (any_of HT_.out (by kernel_rfl)) (fun _ _ _ h => h) (Or.inl ⟨by rfl, ?_⟩) ?_ ?_; rotate_left
     ·intro w'
      go_simp
      with_reducible rfl
     rotate_left
     ·simp only [Act.put, la_, lz_, ls_, i64_w, i32_w]
      rfl
     refine pure_ (i := 12) (N := some 31) (v := ?_) (a' := ?_) #[F_, T_, F_, F_, T_, F_, F_, F_, F_, T_, F_, F_, T_, F_, F_, F_, F_, F_, F_, F_, F_, F_, F_, F_, F_, F_, F_, F_, F_, F_, F_, F_, F_, F_, F_, F_, F_] rfl rfl (any_of HT_.out (by kernel_rfl)) (fun _ _ _ h => h) (Or.inl ⟨by rfl, ?_⟩) ?_ ?_; rotate_left
     ·intro w'
      go_simp
      with_reducible rfl
     rotate_left
     ·simp only [Act.put, la_, lz_, ls_, i64_w, i32_w]
      rfl
     refine pure_ (i := 18) (N := some 37) (v := ?_) (a' := ?_) #[F_, T_, F_, F_, T_, F_, F_, F_, F_, T_, F_, F_, T_, F_, F_, F_, F_, F_, T_, F_, F_, F_, F_, F_, F_, F_, F_, F_, F_, F_, F_, F_, F_, F_, F_, F_, F_] rfl rfl (any_of HT_.out (by kernel_rfl)) (fun _ _ _ h => h) (Or.inl ⟨by rfl, ?_⟩) ?_ ?_; rotate_left
     ·intro w'
      go_simp
      with_reducible rfl
     rotate_left
     ·simp only [Act.put, la_, lz_, ls_, i64_w, i32_w]
      rfl
     refine pure_ (i := 21) (N := some 40) (v := ?_) (a' := ?_) #[F_, T_, F_, F_, T_, F_, F_, F_, F_, T_, F_, F_, T_, F_, F_, F_, F_, F_, T_, F_, F_, T_, F_, F_, F_, F_, F_, F_, F_, F_, F_, F_, F_, F_, F_, F_, F_] rfl rfl (any_of HT_.out (by kernel_rfl)) (fun _ _ _ h => h) (Or.inl ⟨by rfl, ?_⟩) ?_ ?_; rotate_left
     ·intro w'
      go_simp
      with_reducible rfl
     rotate_left
     ·simp only [Act.put, la_, lz_, ls_, i64_w, i32_w]
      rfl
     refine pure_ (i := 27) (N := some 46) (v := ?_) (a' := ?_) #[F_, T_, F_, F_, T_, F_, F_, F_, F_, T_, F_, F_, T_, F_, F_, F_, F_, F_, T_, F_, F_, T_, F_, F_, F_, F_, F_, T_, F_, F_, F_, F_, F_, F_, F_, F_, F_] rfl rfl (any_of HT_.out (by kernel_rfl)) (fun _ _ _ h => h) (Or.inl ⟨by rfl, ?_⟩) ?_ ?_; rotate_left
     ·intro w'
      go_simp
      with_reducible rfl
     rotate_left
     ·simp only [Act.put, la_, lz_, ls_, i64_w, i32_w]
      rfl
     refine pure_ (i := 30) (N := some 49) (v := ?_) (a' := ?_) #[F_, T_, F_, F_, T_, F_, F_, F_, F_, T_, F_, F_, T_, F_, F_, F_, F_, F_, T_, F_, F_, T_, F_, F_, F_, F_, F_, T_, F_, F_, T_, F_, F_, F_, F_, F_, F_] rfl rfl (any_of HT_.out (by kernel_rfl)) (fun _ _ _ h => h) (Or.inl ⟨by rfl, ?_⟩) ?_ ?_; rotate_left
     ·intro w'
      go_simp
      with_reducible rfl
     rotate_left
     ·simp only [Act.put, la_, lz_, ls_, i64_w, i32_w]
      rfl
     refine take_ (i := 0) (N := some 19) (v := ?_) (a' := ?_) #[T_, T_, F_, F_, T_, F_, F_, F_, F_, T_, F_, F_, T_, F_, F_, F_, F_, F_, T_, F_, F_, T_, F_, F_, F_, F_, F_, T_, F_, F_, T_, F_, F_, F_, F_, F_, F_] rfl rfl (take_ofW HT_.out HW_.out (by kernel_rfl)) (fun _ _ _ h => h) (Or.inl ⟨by rfl, ?_⟩) hHeld ?_ ?_; rotate_left
     ·rintro w' ⟨s0, s1, s2, s3, s4, s5, s6, s7⟩
      go_simp
      with_reducible rfl
     rotate_left
     ·simp only [Act.put, la_, lz_, ls_, i64_w, i32_w]
      rfl
     refine take_ (i := 2) (N := some 21) (v := ?_) (a' := ?_) #[T_, T_, T_, F_, T_, F_, F_, F_, F_, T_, F_, F_, T_, F_, F_, F_, F_, F_, T_, F_, F_, T_, F_, F_, F_, F_, F_, T_, F_, F_, T_, F_, F_, F_, F_, F_, F_] rfl rfl (take_ofW HT_.out HW_.out (by kernel_rfl)) (fun _ _ _ h => h) (Or.inl ⟨by rfl, ?_⟩) hHeld ?_ ?_; rotate_left
     ·rintro w' ⟨s0, s1, s2, s3, s4, s5, s6, s7⟩
      go_simp
      with_reducible rfl
     rotate_left
     ·simp only [Act.put, la_, lz_, ls_, i64_w, i32_w]
      rfl
     refine pure_ (i := 3) (N := some 22) (v := ?_) (a' := ?_) #[T_, T_, T_, T_, T_, F_, F_, F_, F_, T_, F_, F_, T_, F_, F_, F_, F_, F_, T_, F_, F_, T_, F_, F_, F_, F_, F_, T_, F_, F_, T_, F_, F_, F_, F_, F_, F_] rfl rfl (any_of HT_.out (by kernel_rfl)) (fun _ _ _ h => h) (Or.inl ⟨by rfl, ?_⟩) ?_ ?_; rotate_left
     ·intro w'
      go_simp
      with_reducible rfl
     rotate_left
     ·simp only [Act.put, la_, lz_, ls_, i64_w, i32_w]
      rfl
     refine take_ (i := 5) (N := some 24) (v := ?_) (a' := ?_) #[T_, T_, T_, T_, T_, T_, F_, F_, F_, T_, F_, F_, T_, F_, F_, F_, F_, F_, T_, F_, F_, T_, F_, F_, F_, F_, F_, T_, F_, F_, T_, F_, F_, F_, F_, F_, F_] rfl rfl (take_ofW HT_.out HW_.out (by kernel_rfl)) (fun _ _ _ h => h) (Or.inl ⟨by rfl, ?_⟩) hHeld ?_ ?_; rotate_left
     ·rintro w' ⟨s0, s1, s2, s3, s4, s5, s6, s7⟩
      go_simp
      with_reducible rfl
     rotate_left
     ·simp only [Act.put, la_, lz_, ls_, i64_w, i32_w]
      rfl
     refine pure_ (i := 6) (N := some 25) (v := ?_) (a' := ?_) #[T_, T_, T_, T_, T_, T_, T_, F_, F_, T_, F_, F_, T_, F_, F_, F_, F_, F_, T_, F_, F_, T_, F_, F_, F_, F_, F_, T_, F_, F_, T_, F_, F_, F_, F_, F_, F_] rfl rfl (any_of HT_.out (by kernel_rfl)) (fun _ _ _ h => h) (Or.inl ⟨by rfl, ?_⟩) ?_ ?_; rotate_left
     ·intro w'
      go_simp
      with_reducible rfl
     rotate_left
     ·simp only [Act.put, la_, lz_, ls_, i64_w, i32_w]
      rfl
     refine take_ (i := 8) (N := some 27) (v := ?_) (a' := ?_) #[T_, T_, T_, T_, T_, T_, T_, F_, T_, T_, F_, F_, T_, F_, F_, F_, F_, F_, T_, F_, F_, T_, F_, F_, F_, F_, F_, T_, F_, F_, T_, F_, F_, F_, F_, F_, F_] rfl rfl (take_ofW HT_.out HW_.out (by kernel_rfl)) (fun _ _ _ h => h) (Or.inl ⟨by rfl, ?_⟩) hHeld ?_ ?_; rotate_left
     ·rintro w' ⟨s0, s1, s2, s3, s4, s5, s6, s7⟩
      go_simp
      with_reducible rfl
     rotate_left
     ·simp only [Act.put, la_, lz_, ls_, i64_w, i32_w]
      rfl
     refine take_ (i := 10) (N := some 29) (v := ?_) (a' := ?_) #[T_, T_, T_, T_, T_, T_, T_, F_, T_, T_, T_, F_, T_, F_, F_, F_, F_, F_, T_, F_, F_, T_, F_, F_, F_, F_, F_, T_, F_, F_, T_, F_, F_, F_, F_, F_, F_] rfl rfl (take_ofW HT_.out HW_.out (by kernel_rfl)) (fun _ _ _ h => h) (Or.inl ⟨by rfl, ?_⟩) hHeld ?_ ?_; rotate_left
     ·rintro w' ⟨s0, s1, s2, s3, s4, s5, s6, s7⟩
      go_simp
      with_reducible rfl
     rotate_left
     ·simp only [Act.put, la_, lz_, ls_, i64_w, i32_w]
      rfl
     refine pure_ (i := 11) (N := some 30) (v := ?_) (a' := ?_) #[T_, T_, T_, T_, T_, T_, T_, F_, T_, T_, T_, T_, T_, F_, F_, F_, F_, F_, T_, F_, F_, T_, F_, F_, F_, F_, F_, T_, F_, F_, T_, F_, F_, F_, F_, F_, F_] rfl rfl (any_of HT_.out (by kernel_rfl)) (fun _ _ _ h => h) (Or.inl ⟨by rfl, ?_⟩) ?_ ?_; rotate_left
     ·intro w'
      go_simp
      with_reducible rfl
     rotate_left
     ·simp only [Act.put, la_, lz_, ls_, i64_w, i32_w]
      rfl
     refine take_ (i := 13) (N := some 32) (v := ?_) (a' := ?_) #[T_, T_, T_, T_, T_, T_, T_, F_, T_, T_, T_, T_, T_, T_, F_, F_, F_, F_, T_, F_, F_, T_, F_, F_, F_, F_, F_, T_, F_, F_, T_, F_, F_, F_, F_, F_, F_] rfl rfl (take_ofW HT_.out HW_.out (by kernel_rfl)) (fun _ _ _ h => h) (Or.inl ⟨by rfl, ?_⟩) hHeld ?_ ?_; rotate_left
     ·rintro w' ⟨s0, s1, s2, s3, s4, s5, s6, s7⟩
      go_simp
      with_reducible rfl
     rotate_left
     ·simp only [Act.put, la_, lz_, ls_, i64_w, i32_w]
      rfl
     refine pure_ (i := 14) (N := some 33) (v := ?_) (a' := ?_) #[T_, T_, T_, T_, T_, T_, T_, F_, T_, T_, T_, T_, T_, T_, T_, F_, F_, F_, T_, F_, F_, T_, F_, F_, F_, F_, F_, T_, F_, F_, T_, F_, F_, F_, F_, F_, F_] rfl rfl (any_of HT_.out (by kernel_rfl)) (fun _ _ _ h => h) (Or.inl ⟨by rfl, ?_⟩) ?_ ?_; rotate_left
     ·intro w'
      go_simp
      with_reducible rfl
     rotate_left
     ·simp only [Act.put, la_, lz_, ls_, i64_w, i32_w]
      rfl
     refine take_ (i := 17) (N := some 36) (v := ?_) (a' := ?_) #[T_, T_, T_, T_, T_, T_, T_, F_, T_, T_, T_, T_, T_, T_, T_, F_, F_, T_, T_, F_, F_, T_, F_, F_, F_, F_, F_, T_, F_, F_, T_, F_, F_, F_, F_, F_, F_] rfl rfl (take_ofW HT_.out HW_.out (by kernel_rfl)) (fun _ _ _ h => h) (Or.inl ⟨by rfl, ?_⟩) hHeld ?_ ?_; rotate_left
     ·rintro w' ⟨s0, s1, s2, s3, s4, s5, s6, s7⟩
      go_simp
      with_reducible rfl
     rotate_left
     ·simp only [Act.put, la_, lz_, ls_, i64_w, i32_w]
      rfl
     refine take_ (i := 19) (N := some 38) (v := ?_) (a' := ?_) #[T_, T_, T_, T_, T_, T_, T_, F_, T_, T_, T_, T_, T_, T_, T_, F_, F_, T_, T_, T_, F_, T_, F_, F_, F_, F_, F_, T_, F_, F_, T_, F_, F_, F_, F_, F_, F_] rfl rfl (take_ofW HT_.out HW_.out (by kernel_rfl)) (fun _ _ _ h => h) (Or.inl ⟨by rfl, ?_⟩) hHeld ?_ ?_; rotate_left
     ·rintro w' ⟨s0, s1, s2, s3, s4, s5, s6, s7⟩
      go_simp
      with_reducible rfl
     rotate_left
     ·simp only [Act.put, la_, lz_, ls_, i64_w, i32_w]
      rfl
     refine pure_ (i := 20) (N := some 39) (v := ?_) (a' := ?_) #[T_, T_, T_, T_, T_, T_, T_, F_, T_, T_, T_, T_, T_, T_, T_, F_, F_, T_, T_, T_, T_, T_, F_, F_, F_, F_, F_, T_, F_, F_, T_, F_, F_, F_, F_, F_, F_] rfl rfl (any_of HT_.out (by kernel_rfl)) (fun _ _ _ h => h) (Or.inl ⟨by rfl, ?_⟩) ?_ ?_; rotate_left
     ·intro w'
      go_simp
      with_reducible rfl
     rotate_left
     ·simp only [Act.put, la_, lz_, ls_, i64_w, i32_w]
      rfl
     refine take_ (i := 22) (N := some 41) (v := ?_) (a' := ?_) #[T_, T_, T_, T_, T_, T_, T_, F_, T_, T_, T_, T_, T_, T_, T_, F_, F_, T_, T_, T_, T_, T_, T_, F_, F_, F_, F_, T_, F_, F_, T_, F_, F_, F_, F_, F_, F_] rfl rfl (take_ofW HT_.out HW_.out (by kernel_rfl)) (fun _ _ _ h => h) (Or.inl ⟨by rfl, ?_⟩) hHeld ?_ ?_; rotate_left
     ·rintro w' ⟨s0, s1, s2, s3, s4, s5, s6, s7⟩
      go_simp
      with_reducible rfl
     rotate_left
     ·simp only [Act.put, la_, lz_, ls_, i64_w, i32_w]
      rfl
     refine pure_ (i := 23) (N := some 42) (v := ?_) (a' := ?_) #[T_, T_, T_, T_, T_, T_, T_, F_, T_, T_, T_, T_, T_, T_, T_, F_, F_, T_, T_, T_, T_, T_, T_, T_, F_, F_, F_, T_, F_, F_, T_, F_, F_, F_, F_, F_, F_] rfl rfl (any_of HT_.out (by kernel_rfl)) (fun _ _ _ h => h) (Or.inl ⟨by rfl, ?_⟩) ?_ ?_; rotate_left
     ·intro w'
      go_simp
      with_reducible rfl
     rotate_left
     ·simp only [Act.put, la_, lz_, ls_, i64_w, i32_w]
      rfl
     refine take_ (i := 26) (N := some 45) (v := ?_) (a' := ?_) #[T_, T_, T_, T_, T_, T_, T_, F_, T_, T_, T_, T_, T_, T_, T_, F_, F_, T_, T_, T_, T_, T_, T_, T_, F_, F_, T_, T_, F_, F_, T_, F_, F_, F_, F_, F_, F_] rfl rfl (take_ofW HT_.out HW_.out (by kernel_rfl)) (fun _ _ _ h => h) (Or.inl ⟨by rfl, ?_⟩) hHeld ?_ ?_; rotate_left
     ·rintro w' ⟨s0, s1, s2, s3, s4, s5, s6, s7⟩
      go_simp
      with_reducible rfl
     rotate_left
     ·simp only [Act.put, la_, lz_, ls_, i64_w, i32_w]
      rfl
     refine take_ (i := 28) (N := some 47) (v := ?_) (a' := ?_) #[T_, T_, T_, T_, T_, T_, T_, F_, T_, T_, T_, T_, T_, T_, T_, F_, F_, T_, T_, T_, T_, T_, T_, T_, F_, F_, T_, T_, T_, F_, T_, F_, F_, F_, F_, F_, F_] rfl rfl (take_ofW HT_.out HW_.out (by kernel_rfl)) (fun _ _ _ h => h) (Or.inl ⟨by rfl, ?_⟩) hHeld ?_ ?_; rotate_left
     ·rintro w' ⟨s0, s1, s2, s3, s4, s5, s6, s7⟩
      go_simp
      with_reducible rfl
     rotate_left
     ·simp only [Act.put, la_, lz_, ls_, i64_w, i32_w]
      rfl
     refine pure_ (i := 29) (N := some 48) (v := ?_) (a' := ?_) #[T_, T_, T_, T_, T_, T_, T_, F_, T_, T_, T_, T_, T_, T_, T_, F_, F_, T_, T_, T_, T_, T_, T_, T_, F_, F_, T_, T_, T_, T_, T_, F_, F_, F_, F_, F_, F_] rfl rfl (any_of HT_.out (by kernel_rfl)) (fun _ _ _ h => h) (Or.inl ⟨by rfl, ?_⟩) ?_ ?_; rotate_left
     ·intro w'
      go_simp
      with_reducible rfl
     rotate_left
     ·simp only [Act.put, la_, lz_, ls_, i64_w, i32_w]
      rfl
     refine take_ (i := 31) (N := some 50) (v := ?_) (a' := ?_) #[T_, T_, T_, T_, T_, T_, T_, F_, T_, T_, T_, T_, T_, T_, T_, F_, F_, T_, T_, T_, T_, T_, T_, T_, F_, F_, T_, T_, T_, T_, T_, T_, F_, F_, F_, F_, F_] rfl rfl (take_ofW HT_.out HW_.out (by kernel_rfl)) (fun _ _ _ h => h) (Or.inl ⟨by rfl, ?_⟩) hHeld ?_ ?_; rotate_left
     ·rintro w' ⟨s0, s1, s2, s3, s4, s5, s6, s7⟩
      go_simp
      with_reducible rfl
     rotate_left
     ·simp only [Act.put, la_, lz_, ls_, i64_w, i32_w]
      rfl
     refine pure_ (i := 32) (N := some 51) (v := ?_) (a' := ?_) #[T_, T_, T_, T_, T_, T_, T_, F_, T_, T_, T_, T_, T_, T_, T_, F_, F_, T_, T_, T_, T_, T_, T_, T_, F_, F_, T_, T_, T_, T_, T_, T_, T_, F_, F_, F_, F_] rfl rfl (any_of HT_.out (by kernel_rfl)) (fun _ _ _ h => h) (Or.inl ⟨by rfl, ?_⟩) ?_ ?_; rotate_left
     ·intro w'
      go_simp
      with_reducible rfl
     rotate_left
     ·simp only [Act.put, la_, lz_, ls_, i64_w, i32_w]
      rfl
     refine one_ (i := 7) (N := some 26) #[T_, T_, T_, T_, T_, T_, T_, T_, T_, T_, T_, T_, T_, T_, T_, F_, F_, T_, T_, T_, T_, T_, T_, T_, F_, F_, T_, T_, T_, T_, T_, T_, T_, F_, F_, F_, F_] rfl rfl (one_of HT_.out (by kernel_rfl)) (by decide) (fun K hK => ?_); refine goes_ Try.func43 (by kernel_rfl) rfl #[.agg #[.int .i64 a0_0, .int .i64 a0_1, .int .i64 a0_2, .slice A0_3 l0_3.length c0_3], .int .i64 (wrap64 (a1_2 - 1)), .int .i64 (wrap64 (a1_3 - 1))] (by rfl) rfl rfl q140_ ?_
     with_reducible refine (tilefarmref13_at.calls a0_0 a0_1 a0_2 _ _ l0_3 (wrap64 (a1_2 - 1)) (wrap64 (a1_3 - 1)) t382 _ ?side1 ?side2 A22.out).mono ?_
     (case side1 => repeat (first | exact (Kd.C_below HR0_3.out HB.out) | (with_reducible refine Kd.C_alloc ?_ _) | (with_reducible refine Kd.C_drewN ?_ _) | (with_reducible refine Kd.C_drew ?_))); (case side2 => exact HC0_3.out); rintro e w27 ⟨rfl, hb⟩; refine ⟨_, rfl, ?_⟩; have n0_ := am_ (blk_below (g := gb373) (o := .cells #[.int .i64 a0_0, .int .i64 a0_1, .int .i64 a0_2, .slice A0_3 l0_3.length c0_3] 26 (0, 0)) q181_ hb); have n1_ := am_ (blk_below (g := gb374) (o := .cells #[.int .i64 a1_0, .int .i64 a1_1, .int .i64 a1_2, .int .i64 a1_3] 32 (0, 0)) q182_ hb); have n2_ := am_ (below_step q98_ hb); clear BK373 BK374 HB; have BK373 := n0_; have BK374 := n1_; have HB := n2_; clear n0_ n1_ n2_; (try clear hb); (try clear hb2); (try clear hk); (try clear hi); refine hK.out _ _ ⟨bc0_ BK373.out, bc1_ BK373.out, bc2_ BK373.out, bc3_ BK373.out, bc0_ BK374.out, bc1_ BK374.out, bc2_ BK374.out, bc3_ BK374.out⟩ (fun hHeld => ?_); clear hK K; refine norm_ (a' := ?_) ?_ ?_; rotate_left
     ·show Act.put _ (some 26) _ = _
      simp only [Act.put, la_, lz_, ls_, i64_w, i32_w]; rfl
     refine one_ (i := 15) (N := some 34) #[T_, T_, T_, T_, T_, T_, T_, T_, T_, T_, T_, T_, T_, T_, T_, T_, F_, T_, T_, T_, T_, T_, T_, T_, F_, F_, T_, T_, T_, T_, T_, T_, T_, F_, F_, F_, F_] rfl rfl (one_of HT_.out (by kernel_rfl)) (by decide) (fun K hK => ?_); refine goes_ Try.func43 (by kernel_rfl) rfl #[.agg #[.int .i64 a0_0, .int .i64 a0_1, .int .i64 a0_2, .slice A0_3 l0_3.length c0_3], .int .i64 (wrap64 (a1_0 - 1)), .int .i64 (wrap64 (a1_3 - 1))] (by rfl) rfl rfl q140_ ?_
     with_reducible refine (tilefarmref13_at.calls a0_0 a0_1 a0_2 _ _ l0_3 (wrap64 (a1_0 - 1)) (wrap64 (a1_3 - 1)) t383 _ ?side1 ?side2 A23.out).mono ?_
     (case side1 => repeat (first | exact (Kd.C_below HR0_3.out HB.out) | (with_reducible refine Kd.C_alloc ?_ _) | (with_reducible refine Kd.C_drewN ?_ _) | (with_reducible refine Kd.C_drew ?_))); (case side2 => exact HC0_3.out); rintro e w28 ⟨rfl, hb⟩; refine ⟨_, rfl, ?_⟩; have n0_ := am_ (blk_below (g := gb373) (o := .cells #[.int .i64 a0_0, .int .i64 a0_1, .int .i64 a0_2, .slice A0_3 l0_3.length c0_3] 26 (0, 0)) q181_ hb); have n1_ := am_ (blk_below (g := gb374) (o := .cells #[.int .i64 a1_0, .int .i64 a1_1, .int .i64 a1_2, .int .i64 a1_3] 32 (0, 0)) q182_ hb); have n2_ := am_ (below_step q98_ hb); clear BK373 BK374 HB; have BK373 := n0_; have BK374 := n1_; have HB := n2_; clear n0_ n1_ n2_; (try clear hb); (try clear hb2); (try clear hk); (try clear hi); refine hK.out _ _ ⟨bc0_ BK373.out, bc1_ BK373.out, bc2_ BK373.out, bc3_ BK373.out, bc0_ BK374.out, bc1_ BK374.out, bc2_ BK374.out, bc3_ BK374.out⟩ (fun hHeld => ?_); clear hK K; refine norm_ (a' := ?_) ?_ ?_; rotate_left
     ·show Act.put _ (some 34) _ = _
      simp only [Act.put, la_, lz_, ls_, i64_w, i32_w]; rfl
     refine pure_ (i := 16) (N := some 35) (v := ?_) (a' := ?_) #[T_, T_, T_, T_, T_, T_, T_, T_, T_, T_, T_, T_, T_, T_, T_, T_, T_, T_, T_, T_, T_, T_, T_, T_, F_, F_, T_, T_, T_, T_, T_, T_, T_, F_, F_, F_, F_] rfl rfl (any_of HT_.out (by kernel_rfl)) (fun _ _ _ h => h) (Or.inl ⟨by rfl, ?_⟩) ?_ ?_; rotate_left
     ·intro w'
      go_simp
      with_reducible rfl
     rotate_left
     ·simp only [Act.put, la_, lz_, ls_, i64_w, i32_w]
      rfl
     refine one_ (i := 24) (N := some 43) #[T_, T_, T_, T_, T_, T_, T_, T_, T_, T_, T_, T_, T_, T_, T_, T_, T_, T_, T_, T_, T_, T_, T_, T_, T_, F_, T_, T_, T_, T_, T_, T_, T_, F_, F_, F_, F_] rfl rfl (one_of HT_.out (by kernel_rfl)) (by decide) (fun K hK => ?_); refine goes_ Try.func43 (by kernel_rfl) rfl #[.agg #[.int .i64 a0_0, .int .i64 a0_1, .int .i64 a0_2, .slice A0_3 l0_3.length c0_3], .int .i64 (wrap64 (a1_2 - 1)), .int .i64 (wrap64 (a1_1 - 1))] (by rfl) rfl rfl q140_ ?_
     with_reducible refine (tilefarmref13_at.calls a0_0 a0_1 a0_2 _ _ l0_3 (wrap64 (a1_2 - 1)) (wrap64 (a1_1 - 1)) t384 _ ?side1 ?side2 A24.out).mono ?_
     (case side1 => repeat (first | exact (Kd.C_below HR0_3.out HB.out) | (with_reducible refine Kd.C_alloc ?_ _) | (with_reducible refine Kd.C_drewN ?_ _) | (with_reducible refine Kd.C_drew ?_))); (case side2 => exact HC0_3.out); rintro e w29 ⟨rfl, hb⟩; refine ⟨_, rfl, ?_⟩; have n0_ := am_ (blk_below (g := gb373) (o := .cells #[.int .i64 a0_0, .int .i64 a0_1, .int .i64 a0_2, .slice A0_3 l0_3.length c0_3] 26 (0, 0)) q181_ hb); have n1_ := am_ (blk_below (g := gb374) (o := .cells #[.int .i64 a1_0, .int .i64 a1_1, .int .i64 a1_2, .int .i64 a1_3] 32 (0, 0)) q182_ hb); have n2_ := am_ (below_step q98_ hb); clear BK373 BK374 HB; have BK373 := n0_; have BK374 := n1_; have HB := n2_; clear n0_ n1_ n2_; (try clear hb); (try clear hb2); (try clear hk); (try clear hi); refine hK.out _ _ ⟨bc0_ BK373.out, bc1_ BK373.out, bc2_ BK373.out, bc3_ BK373.out, bc0_ BK374.out, bc1_ BK374.out, bc2_ BK374.out, bc3_ BK374.out⟩ (fun hHeld => ?_); clear hK K; refine norm_ (a' := ?_) ?_ ?_; rotate_left
     ·show Act.put _ (some 43) _ = _
      simp only [Act.put, la_, lz_, ls_, i64_w, i32_w]; rfl
     refine pure_ (i := 25) (N := some 44) (v := ?_) (a' := ?_) #[T_, T_, T_, T_, T_, T_, T_, T_, T_, T_, T_, T_, T_, T_, T_, T_, T_, T_, T_, T_, T_, T_, T_, T_, T_, T_, T_, T_, T_, T_, T_, T_, T_, F_, F_, F_, F_] rfl rfl (any_of HT_.out (by kernel_rfl)) (fun _ _ _ h => h) (Or.inl ⟨by rfl, ?_⟩) ?_ ?_; rotate_left
     ·intro w'
      go_simp
      with_reducible rfl
     rotate_left
     ·simp only [Act.put, la_, lz_, ls_, i64_w, i32_w]
      rfl
     refine one_ (i := 33) (N := some 52) #[T_, T_, T_, T_, T_, T_, T_, T_, T_, T_, T_, T_, T_, T_, T_, T_, T_, T_, T_, T_, T_, T_, T_, T_, T_, T_, T_, T_, T_, T_, T_, T_, T_, T_, F_, F_, F_] rfl rfl (one_of HT_.out (by kernel_rfl)) (by decide) (fun K hK => ?_); refine goes_ Try.func43 (by kernel_rfl) rfl #[.agg #[.int .i64 a0_0, .int .i64 a0_1, .int .i64 a0_2, .slice A0_3 l0_3.length c0_3], .int .i64 (wrap64 (a1_0 - 1)), .int .i64 (wrap64 (a1_1 - 1))] (by rfl) rfl rfl q140_ ?_
     with_reducible refine (tilefarmref13_at.calls a0_0 a0_1 a0_2 _ _ l0_3 (wrap64 (a1_0 - 1)) (wrap64 (a1_1 - 1)) t385 _ ?side1 ?side2 A25.out).mono ?_
     (case side1 => repeat (first | exact (Kd.C_below HR0_3.out HB.out) | (with_reducible refine Kd.C_alloc ?_ _) | (with_reducible refine Kd.C_drewN ?_ _) | (with_reducible refine Kd.C_drew ?_))); (case side2 => exact HC0_3.out); rintro e w30 ⟨rfl, hb⟩; refine ⟨_, rfl, ?_⟩; have n0_ := am_ (blk_below (g := gb373) (o := .cells #[.int .i64 a0_0, .int .i64 a0_1, .int .i64 a0_2, .slice A0_3 l0_3.length c0_3] 26 (0, 0)) q181_ hb); have n1_ := am_ (blk_below (g := gb374) (o := .cells #[.int .i64 a1_0, .int .i64 a1_1, .int .i64 a1_2, .int .i64 a1_3] 32 (0, 0)) q182_ hb); have n2_ := am_ (below_step q98_ hb); clear BK373 BK374 HB; have BK373 := n0_; have BK374 := n1_; have HB := n2_; clear n0_ n1_ n2_; (try clear hb); (try clear hb2); (try clear hk); (try clear hi); refine hK.out _ _ ⟨bc0_ BK373.out, bc1_ BK373.out, bc2_ BK373.out, bc3_ BK373.out, bc0_ BK374.out, bc1_ BK374.out, bc2_ BK374.out, bc3_ BK374.out⟩ (fun hHeld => ?_); clear hK K; refine norm_ (a' := ?_) ?_ ?_; rotate_left
     ·show Act.put _ (some 52) _ = _
      simp only [Act.put, la_, lz_, ls_, i64_w, i32_w]; rfl
     refine pure_ (i := 34) (N := some 53) (v := ?_) (a' := ?_) #[T_, T_, T_, T_, T_, T_, T_, T_, T_, T_, T_, T_, T_, T_, T_, T_, T_, T_, T_, T_, T_, T_, T_, T_, T_, T_, T_, T_, T_, T_, T_, T_, T_, T_, T_, F_, F_] rfl rfl (any_of HT_.out (by kernel_rfl)) (fun _ _ _ h => h) (Or.inl ⟨by rfl, ?_⟩) ?_ ?_; rotate_left
     ·intro w'
      go_simp
      with_reducible rfl
     rotate_left
     ·simp only [Act.put, la_, lz_, ls_, i64_w, i32_w]
      rfl
     refine pure_ (i := 35) (N := some 4) (v := ?_) (a' := ?_) #[T_, T_, T_, T_, T_, T_, T_, T_, T_, T_, T_, T_, T_, T_, T_, T_, T_, T_, T_, T_, T_, T_, T_, T_, T_, T_, T_, T_, T_, T_, T_, T_, T_, T_, T_, T_, F_] rfl rfl (any_of HT_.out (by kernel_rfl)) (fun _ _ _ h => h) (Or.inl ⟨by rfl, ?_⟩) ?_ ?_; rotate_left
     ·intro w'
      go_simp
      with_reducible rfl
     rotate_left
     ·simp only [Act.put, la_, lz_, ls_, i64_w, i32_w]
      rfl
     refine pure_ (i := 36) (N := some 5) (v := ?_) (a' := ?_) #[T_, T_, T_, T_, T_, T_, T_, T_, T_, T_, T_, T_, T_, T_, T_, T_, T_, T_, T_, T_, T_, T_, T_, T_, T_, T_, T_, T_, T_, T_, T_, T_, T_, T_, T_, T_, T_] rfl rfl (any_of HT_.out (by kernel_rfl)) (fun _ _ _ h => h) (Or.inl ⟨by rfl, ?_⟩) ?_ ?_; rotate_left
     ·intro w'
      go_simp
      with_reducible rfl
     rotate_left
     ·simp only [Act.put, la_, lz_, ls_, i64_w, i32_w]
      rfl
     refine done_ (done_of HT_.out (by kernel_rfl)) ?_
     try go_wp2
     go_ret2
     exact ⟨q211_, q98_⟩
 ·replace c4 := Bool.eq_false_iff.mpr c4
  subst c4; have H1 : (some (0, 1)) = some (r1, r2) := by rw [if_neg (show ¬ (false = true) by decide)] at H; exact H
  clear H; have H := H1; clear H1; simp only [Option.some.injEq, Prod.mk.injEq] at H; obtain ⟨rfl, rfl⟩ := H
  go_enter Try.func20, Try.ntmps20
  go_wp2_with (first | ((with_reducible refine gate_dst (N := 2) rfl ?_); refine box_event ?hg (N := 2) ?hd (cs := #[.int .i64 a0_0, .int .i64 a0_1, .int .i64 a0_2, .slice A0_3 l0_3.length c0_3]) (t := 26) ?hr ?_; (case hd => rfl); (case hg => rfl); (case hr => first | (go_simp; done) | (go_simp; rfl)); intro gb373 hg w31 hbox hb; have n0_ := am_ (below_step q143_ hb); have n1_ := am_ (hbox); have n2_ := am_ ((q108_ : w.heap.size ≤ gb373)); have n3_ := am_ ((q108_ : w.heap.size ≤ gb373)); clear HB; have HB := n0_; have BK373 := n1_; have GW373 := n2_; have GE373 := n3_; clear n0_ n1_ n2_ n3_; clear hb hbox hg) | ((with_reducible refine gate_dst (N := 3) rfl ?_); refine box_event ?hg (N := 3) ?hd (cs := #[.int .i64 a1_0, .int .i64 a1_1, .int .i64 a1_2, .int .i64 a1_3]) (t := 32) ?hr ?_; (case hd => rfl); (case hg => rfl); (case hr => first | (go_simp; done) | (go_simp; rfl)); intro gb374 hg w32 hbox hb; have n0_ := am_ (blk_below (g := gb373) (o := .cells #[.int .i64 a0_0, .int .i64 a0_1, .int .i64 a0_2, .slice A0_3 l0_3.length c0_3] 26 (0, 0)) q181_ hb); have n1_ := am_ (below_step q132_ hb); have n2_ := am_ (hbox); have n3_ := am_ ((q88_ : w.heap.size ≤ gb374)); have n4_ := am_ ((q88_ : w.heap.size ≤ gb374)); have n5_ := am_ ((by rw [hg]; exact Nat.ne_of_lt (blk_lt (g := gb373) (o := .cells #[.int .i64 a0_0, .int .i64 a0_1, .int .i64 a0_2, .slice A0_3 l0_3.length c0_3] 26 (0, 0)) q181_) : gb373 ≠ gb374)); have n6_ := am_ ((by rw [hg]; exact Nat.ne_of_gt (blk_lt (g := gb373) (o := .cells #[.int .i64 a0_0, .int .i64 a0_1, .int .i64 a0_2, .slice A0_3 l0_3.length c0_3] 26 (0, 0)) q181_) : gb374 ≠ gb373)); clear BK373 HB; have BK373 := n0_; have HB := n1_; have BK374 := n2_; have GW374 := n3_; have GE374 := n4_; have NB373_374 := n5_; have NB374_373 := n6_; clear n0_ n1_ n2_ n3_ n4_ n5_ n6_; clear hb hbox hg; have hnb33 := NB373_374.out; have hnc33 := NB374_373.out; have hcz34_0 := bc0_ BK373.out; have hcz34_1 := bc1_ BK373.out; have hcz34_2 := bc2_ BK373.out; have hcz34_3 := bc3_ BK373.out; have hfz34_0 := blk_frozen BK373.out 0; have hfz34_1 := blk_frozen BK373.out 1; have hfz34_2 := blk_frozen BK373.out 2; have hfz34_3 := blk_frozen BK373.out 3) | ((with_reducible refine gate_callee (f := 39) rfl ?_); refine goesL_ (some 7) rfl rfl Try.func39 (by kernel_rfl) rfl #[.agg #[.int .i64 a0_0, .int .i64 a0_1, .int .i64 a0_2, .slice A0_3 l0_3.length c0_3]] rfl q140_ ?_; (with_reducible refine (tilefarmref4_Valid.calls k a0_0 a0_1 a0_2 _ _ l0_3 false _ ?side1 ?side2 A3.out).mono ?_); (case side1 => repeat (first | exact (Kd.C_below HR0_3.out HB.out) | (with_reducible refine Kd.C_alloc ?_ _) | (with_reducible refine Kd.C_drewN ?_ _) | (with_reducible refine Kd.C_drew ?_))); (case side2 => exact HC0_3.out); rintro e w35 ⟨rfl, hb⟩; refine ⟨_, rfl, ?_⟩; have n0_ := am_ (blk_below (g := gb373) (o := .cells #[.int .i64 a0_0, .int .i64 a0_1, .int .i64 a0_2, .slice A0_3 l0_3.length c0_3] 26 (0, 0)) q181_ hb); have n1_ := am_ (blk_below (g := gb374) (o := .cells #[.int .i64 a1_0, .int .i64 a1_1, .int .i64 a1_2, .int .i64 a1_3] 32 (0, 0)) q182_ hb); have n2_ := am_ (below_step q98_ hb); clear BK373 BK374 HB; have BK373 := n0_; have BK374 := n1_; have HB := n2_; clear n0_ n1_ n2_; (try clear hb); (try clear hb2); (try clear hk); (try clear hi)))
  go_ret2
  exact ⟨q211_, q98_⟩

end Go.Proofs.Ytkipnpgcpohlcaa.PIntegralWhole
