-- Written by a program of the session (wip/tools/pack.py): the printed texts, pruned; checked by Lean.
import Derived.Test.YtkipnpgcpohlcaaKIntegralWholea
import Derived.Test.YtkipnpgcpohlcaaKIntegralWholex0
import Derived.Test.YtkipnpgcpohlcaaKIntegralWholex1
import Derived.Test.YtkipnpgcpohlcaaKIntegralWholex5
namespace Go.Proofs.Ytkipnpgcpohlcaa.PIntegralWhole
open Go.RowKit Go.Proofs.YtkipnpgcpohlcaaW.PrintWords Go.Proofs.YtkipnpgcpohlcaaW.PrintLast Go.Proofs.YtkipnpgcpohlcaaW.PrintMore
attribute [local go_sem] max2_int min2_int max_two min_two max_three min_three max_four min_four   -- for this text's walks alone
set_option linter.unusedVariables false
set_option linter.unusedSimpArgs false
attribute [local go_sem high] eqA32
def rect_Inside.f (k : Nat) (a0_0 : Int) (a0_1 : Int) (a0_2 : Int) (a0_3 : Int) (a1_0 : Int) (a1_1 : Int) (a1_2 : Int) (a1_3 : Int) : Option (Bool) := (rect_Valid.f a0_0 a0_1 a0_2 a0_3).bind fun t175 => (if t175 = true then ((rect_Valid.f a1_0 a1_1 a1_2 a1_3).bind fun t176 => (if t176 = true then ((rect_Intersect.f k a0_0 a0_1 a0_2 a0_3 a1_0 a1_1 a1_2 a1_3).bind fun bt177 => (some (bt177.1 == a0_0 && (bt177.2.1 == a0_1 && (bt177.2.2.1 == a0_2 && (bt177.2.2.2 == a0_3)))))) else (some false))) else (some false))
theorem rect_Inside.mono : ∀ a0 a1 a2 a3 a4 a5 a6 a7 k, LeO (rect_Inside.f k a0 a1 a2 a3 a4 a5 a6 a7) (rect_Inside.f (k + 1) a0 a1 a2 a3 a4 a5 a6 a7) := by
 intro a0 a1 a2 a3 a4 a5 a6 a7 k; unfold rect_Inside.f
 repeat' first
   | (with_reducible exact rect_Intersect.mono _ _ _ _ _ _ _ _ _)
   | (with_reducible exact LeO.refl _)
   | (with_reducible exact LeO.none _)
   | (with_reducible refine LeO.ite ?_ ?_)
   | (with_reducible refine LeO.bind ?_ (fun _ => ?_))
   | exact rect_Intersect.mono _ _ _ _ _ _ _ _ _
   | exact LeO.none _
   | refine LeO.ite ?_ ?_
   | refine LeO.bind ?_ (fun _ => ?_)
def rect_Inside.T1 : Bool × List (List Nat × List Nat) := (true, [([], []), ([0], [0]), ([1, 1], [1]), ([2], [2]), ([3, 2, 2], [2, 3]), ([2, 4], [2, 4]), ([5, 4], [5]), ([6], [6]), ([6], [6]), ([7, 8, 6, 6], [6, 7, 8]), ([6], [6]), ([9, 10, 6], [6, 9, 10]), ([6, 11], [6, 11]), ([12, 9, 0, 1, 2, 3, 4, 5, 6, 7, 8, 9, 10, 11, 12], [12])])
def rect_Inside.B1 : List Nat := [0, 1, 3, 7, 15, 31, 63, 127, 127, 511, 127, 2047, 4095, 8191]
theorem rect_Inside.tab1 : rtab .any (opsOf Try.f33 1) = rect_Inside.T1 := by kernel_rfl
theorem rect_Inside.bits1 : waitsOk rect_Inside.T1.2 rect_Inside.B1 = true := by kernel_rfl
set_option maxHeartbeats 8000000 in
set_option maxRecDepth 100000 in
theorem rect_Inside.calls (k : Nat) (a0_0 : Int) (a0_1 : Int) (a0_2 : Int) (a0_3 : Int) (a1_0 : Int) (a1_1 : Int) (a1_2 : Int) (a1_3 : Int) (r : Bool) (w : World) (h : rect_Inside.f k a0_0 a0_1 a0_2 a0_3 a1_0 a1_1 a1_2 a1_3 = some r) :
  Calls Try.prog 33 #[.agg #[.int .i64 a0_0, .int .i64 a0_1, .int .i64 a0_2, .int .i64 a0_3], .agg #[.int .i64 a1_0, .int .i64 a1_1, .int .i64 a1_2, .int .i64 a1_3]] w fun e w' => e = .returned (.bool r) ∧ Below w.heap.size w w' := by
 have hu32 := Try.underlying32; have HB := am_ (Below.refl w.heap.size w); have H : ((rect_Valid.f a0_0 a0_1 a0_2 a0_3).bind fun t175 => (if t175 = true then ((rect_Valid.f a1_0 a1_1 a1_2 a1_3).bind fun t176 => (if t176 = true then ((rect_Intersect.f k a0_0 a0_1 a0_2 a0_3 a1_0 a1_1 a1_2 a1_3).bind fun bt177 => (some (bt177.1 == a0_0 && (bt177.2.1 == a0_1 && (bt177.2.2.1 == a0_2 && (bt177.2.2.2 == a0_3)))))) else (some false))) else (some false))) = some r := h; clear h; replace H := Option.bind_eq_some_iff.mp H; obtain ⟨t175, A30, H⟩ := H; replace H : (if t175 = true then ((rect_Valid.f a1_0 a1_1 a1_2 a1_3).bind fun t176 => (if t176 = true then ((rect_Intersect.f k a0_0 a0_1 a0_2 a0_3 a1_0 a1_1 a1_2 a1_3).bind fun bt177 => (some (bt177.1 == a0_0 && (bt177.2.1 == a0_1 && (bt177.2.2.1 == a0_2 && (bt177.2.2.2 == a0_3)))))) else (some false))) else (some false)) = some r := H; have A3 := am_ A30; clear A30
 by_cases c4 : t175 = true
 ·subst c4
  have H1 : ((rect_Valid.f a1_0 a1_1 a1_2 a1_3).bind fun t176 => (if t176 = true then ((rect_Intersect.f k a0_0 a0_1 a0_2 a0_3 a1_0 a1_1 a1_2 a1_3).bind fun bt177 => (some (bt177.1 == a0_0 && (bt177.2.1 == a0_1 && (bt177.2.2.1 == a0_2 && (bt177.2.2.2 == a0_3)))))) else (some false))) = some r := by rw [if_pos rfl] at H; exact H
  clear H; have H := H1; clear H1; replace H := Option.bind_eq_some_iff.mp H; obtain ⟨t176, A50, H⟩ := H; replace H : (if t176 = true then ((rect_Intersect.f k a0_0 a0_1 a0_2 a0_3 a1_0 a1_1 a1_2 a1_3).bind fun bt177 => (some (bt177.1 == a0_0 && (bt177.2.1 == a0_1 && (bt177.2.2.1 == a0_2 && (bt177.2.2.2 == a0_3)))))) else (some false)) = some r := H; have A5 := am_ A50; clear A50
  by_cases c6 : t176 = true
  ·subst c6
   have H1 : ((rect_Intersect.f k a0_0 a0_1 a0_2 a0_3 a1_0 a1_1 a1_2 a1_3).bind fun bt177 => (some (bt177.1 == a0_0 && (bt177.2.1 == a0_1 && (bt177.2.2.1 == a0_2 && (bt177.2.2.2 == a0_3)))))) = some r := by rw [if_pos rfl] at H; exact H
   clear H; have H := H1; clear H1; replace H := Option.bind_eq_some_iff.mp H; obtain ⟨⟨t177, t178, t179, t180⟩, A70, H⟩ := H; replace H : (some (t177 == a0_0 && (t178 == a0_1 && (t179 == a0_2 && (t180 == a0_3))))) = some r := H; have A7 := am_ A70; clear A70; obtain rfl := Option.some.inj H
   go_enter Try.func33, Try.ntmps33
   try go_wp2_with (first | ((with_reducible refine gate_dst (N := 2) rfl ?_); refine box_event ?hg (N := 2) ?hd (cs := #[.int .i64 a0_0, .int .i64 a0_1, .int .i64 a0_2, .int .i64 a0_3]) (t := 32) ?hr ?_; (case hd => rfl); (case hg => rfl); (case hr => first | (go_simp; done) | (go_simp; rfl)); intro gb173 hg w8 hbox hb; have n0_ := am_ (below_step q143_ hb); have n1_ := am_ (hbox); have n2_ := am_ ((q108_ : w.heap.size ≤ gb173)); have n3_ := am_ ((q108_ : w.heap.size ≤ gb173)); clear HB; have HB := n0_; have BK173 := n1_; have GW173 := n2_; have GE173 := n3_; clear n0_ n1_ n2_ n3_; clear hb hbox hg) | ((with_reducible refine gate_dst (N := 3) rfl ?_); refine box_event ?hg (N := 3) ?hd (cs := #[.int .i64 a1_0, .int .i64 a1_1, .int .i64 a1_2, .int .i64 a1_3]) (t := 32) ?hr ?_; (case hd => rfl); (case hg => rfl); (case hr => first | (go_simp; done) | (go_simp; rfl)); intro gb174 hg w9 hbox hb; have n0_ := am_ (blk_below (g := gb173) (o := .cells #[.int .i64 a0_0, .int .i64 a0_1, .int .i64 a0_2, .int .i64 a0_3] 32 (0, 0)) q155_ hb); have n1_ := am_ (below_step q116_ hb); have n2_ := am_ (hbox); have n3_ := am_ ((q82_ : w.heap.size ≤ gb174)); have n4_ := am_ ((q82_ : w.heap.size ≤ gb174)); have n5_ := am_ ((q39_ : gb173 ≠ gb174)); have n6_ := am_ ((q40_ : gb174 ≠ gb173)); clear BK173 HB; have BK173 := n0_; have HB := n1_; have BK174 := n2_; have GW174 := n3_; have GE174 := n4_; have NB173_174 := n5_; have NB174_173 := n6_; clear n0_ n1_ n2_ n3_ n4_ n5_ n6_; clear hb hbox hg))
   have n0_ := am_ (blk_drew BK173.out); have n1_ := am_ (blk_drew BK174.out); have n2_ := am_ (below_drew1 HB.out); clear BK173 BK174 HB; have BK173 := n0_; have BK174 := n1_; have HB := n2_; clear n0_ n1_ n2_; refine start_ (n := 14) (S := fun w' => w'.cell? ⟨gb173, 0, none⟩ = some (.int .i64 a0_0) ∧ w'.cell? ⟨gb173, 1, none⟩ = some (.int .i64 a0_1) ∧ w'.cell? ⟨gb173, 2, none⟩ = some (.int .i64 a0_2) ∧ w'.cell? ⟨gb173, 3, none⟩ = some (.int .i64 a0_3) ∧ w'.cell? ⟨gb174, 0, none⟩ = some (.int .i64 a1_0) ∧ w'.cell? ⟨gb174, 1, none⟩ = some (.int .i64 a1_1) ∧ w'.cell? ⟨gb174, 2, none⟩ = some (.int .i64 a1_2) ∧ w'.cell? ⟨gb174, 3, none⟩ = some (.int .i64 a1_3)) (ds := []) #[F_, F_, F_, F_, F_, F_, F_, F_, F_, F_, F_, F_, F_, F_] (by kernel_rfl) rfl rfl ⟨bc0_ BK173.out, bc1_ BK173.out, bc2_ BK173.out, bc3_ BK173.out, bc0_ BK174.out, bc1_ BK174.out, bc2_ BK174.out, bc3_ BK174.out⟩ (fun hHeld => ?_); refine with_tabW rect_Inside.tab1 rect_Inside.bits1 (fun HT_ HW_ => ?_); generalize w9.drew = w10 at BK173 BK174 HB hHeld ⊢; refine take_ (i := 0) (N := some 5) (v := ?_) (a' := ?_) #[T_, F_, F_, F_, F_, F_, F_, F_, F_, F_, F_, F_, F_, F_] rfl rfl (take_ofW HT_.out HW_.out (by kernel_rfl)) (fun _ _ _ h => h) (Or.inl ⟨by rfl, ?_⟩) hHeld ?_ ?_; rotate_left
   ·rintro w' ⟨s0, s1, s2, s3, s4, s5, s6, s7⟩
    go_simp
    with_reducible rfl
   rotate_left
   ·simp only [Act.put, la_, lz_, ls_, i64_w, i32_w]
    rfl
   refine one_ (i := 1) (N := some 6) #[T_, T_, F_, F_, F_, F_, F_, F_, F_, F_, F_, F_, F_, F_] rfl rfl (one_of HT_.out (by kernel_rfl)) (by decide) (fun K hK => ?_); refine goes_ Try.func52 (by kernel_rfl) rfl #[.agg #[.int .i64 a0_0, .int .i64 a0_1, .int .i64 a0_2, .int .i64 a0_3]] (by rfl) rfl rfl q140_ ?_
   with_reducible refine (rect_Valid.calls a0_0 a0_1 a0_2 a0_3 true _ A3.out).mono ?_
   rintro e w11 ⟨rfl, hb⟩; refine ⟨_, rfl, ?_⟩; have n0_ := am_ (blk_below (g := gb173) (o := .cells #[.int .i64 a0_0, .int .i64 a0_1, .int .i64 a0_2, .int .i64 a0_3] 32 (0, 0)) q155_ hb); have n1_ := am_ (blk_below (g := gb174) (o := .cells #[.int .i64 a1_0, .int .i64 a1_1, .int .i64 a1_2, .int .i64 a1_3] 32 (0, 0)) q156_ hb); have n2_ := am_ (below_step q91_ hb); clear BK173 BK174 HB; have BK173 := n0_; have BK174 := n1_; have HB := n2_; clear n0_ n1_ n2_; (try clear hb); (try clear hb2); (try clear hk); (try clear hi); refine hK.out _ _ ⟨bc0_ BK173.out, bc1_ BK173.out, bc2_ BK173.out, bc3_ BK173.out, bc0_ BK174.out, bc1_ BK174.out, bc2_ BK174.out, bc3_ BK174.out⟩ (fun hHeld => ?_); clear hK K; refine norm_ (a' := ?_) ?_ ?_; rotate_left
   ·show Act.put _ (some 6) _ = _
    simp only [Act.put, la_, lz_, ls_, i64_w, i32_w]; rfl
   refine pure_ (i := 2) (N := some 7) (v := ?_) (a' := ?_) #[T_, T_, T_, F_, F_, F_, F_, F_, F_, F_, F_, F_, F_, F_] rfl rfl (any_of HT_.out (by kernel_rfl)) (fun _ _ _ h => h) (Or.inl ⟨by rfl, ?_⟩) ?_ ?_; rotate_left
   ·intro w'
    go_simp
    with_reducible rfl
   rotate_left
   ·simp only [Act.put, la_, lz_, ls_, i64_w, i32_w]
    rfl
   refine take_ (i := 3) (N := some 8) (v := ?_) (a' := ?_) #[T_, T_, T_, T_, F_, F_, F_, F_, F_, F_, F_, F_, F_, F_] rfl rfl (take_ofW HT_.out HW_.out (by kernel_rfl)) (fun _ _ _ h => h) (Or.inl ⟨by rfl, ?_⟩) hHeld ?_ ?_; rotate_left
   ·rintro w' ⟨s0, s1, s2, s3, s4, s5, s6, s7⟩
    go_simp
    with_reducible rfl
   rotate_left
   ·simp only [Act.put, la_, lz_, ls_, i64_w, i32_w]
    rfl
   refine one_ (i := 4) (N := some 9) #[T_, T_, T_, T_, T_, F_, F_, F_, F_, F_, F_, F_, F_, F_] rfl rfl (one_of HT_.out (by kernel_rfl)) (by decide) (fun K hK => ?_); refine goes_ Try.func52 (by kernel_rfl) rfl #[.agg #[.int .i64 a1_0, .int .i64 a1_1, .int .i64 a1_2, .int .i64 a1_3]] (by rfl) rfl rfl q140_ ?_
   with_reducible refine (rect_Valid.calls a1_0 a1_1 a1_2 a1_3 true _ A5.out).mono ?_
   rintro e w12 ⟨rfl, hb⟩; refine ⟨_, rfl, ?_⟩; have n0_ := am_ (blk_below (g := gb173) (o := .cells #[.int .i64 a0_0, .int .i64 a0_1, .int .i64 a0_2, .int .i64 a0_3] 32 (0, 0)) q155_ hb); have n1_ := am_ (blk_below (g := gb174) (o := .cells #[.int .i64 a1_0, .int .i64 a1_1, .int .i64 a1_2, .int .i64 a1_3] 32 (0, 0)) q156_ hb); have n2_ := am_ (below_step q91_ hb); clear BK173 BK174 HB; have BK173 := n0_; have BK174 := n1_; have HB := n2_; clear n0_ n1_ n2_; (try clear hb); (try clear hb2); (try clear hk); (try clear hi); refine hK.out _ _ ⟨bc0_ BK173.out, bc1_ BK173.out, bc2_ BK173.out, bc3_ BK173.out, bc0_ BK174.out, bc1_ BK174.out, bc2_ BK174.out, bc3_ BK174.out⟩ (fun hHeld => ?_); clear hK K; refine norm_ (a' := ?_) ?_ ?_; rotate_left
   ·show Act.put _ (some 9) _ = _
    simp only [Act.put, la_, lz_, ls_, i64_w, i32_w]; rfl
   refine pure_ (i := 5) (N := some 10) (v := ?_) (a' := ?_) #[T_, T_, T_, T_, T_, T_, F_, F_, F_, F_, F_, F_, F_, F_] rfl rfl (any_of HT_.out (by kernel_rfl)) (fun _ _ _ h => h) (Or.inl ⟨by rfl, ?_⟩) ?_ ?_; rotate_left
   ·intro w'
    go_simp
    with_reducible rfl
   rotate_left
   ·simp only [Act.put, la_, lz_, ls_, i64_w, i32_w]
    rfl
   refine pure_ (i := 6) (N := some 11) (v := ?_) (a' := ?_) #[T_, T_, T_, T_, T_, T_, T_, F_, F_, F_, F_, F_, F_, F_] rfl rfl (any_of HT_.out (by kernel_rfl)) (fun _ _ _ h => h) (Or.inl ⟨by rfl, ?_⟩) ?_ ?_; rotate_left
   ·intro w'
    go_simp
    with_reducible rfl
   rotate_left
   ·simp only [Act.put, la_, lz_, ls_, i64_w, i32_w]
    rfl
   refine take_ (i := 7) (N := some 12) (v := ?_) (a' := ?_) #[T_, T_, T_, T_, T_, T_, T_, T_, F_, F_, F_, F_, F_, F_] rfl rfl (take_ofW HT_.out HW_.out (by kernel_rfl)) (fun _ _ _ h => h) (Or.inl ⟨by rfl, ?_⟩) hHeld ?_ ?_; rotate_left
   ·rintro w' ⟨s0, s1, s2, s3, s4, s5, s6, s7⟩
    go_simp
    with_reducible rfl
   rotate_left
   ·simp only [Act.put, la_, lz_, ls_, i64_w, i32_w]
    rfl
   refine take_ (i := 8) (N := some 13) (v := ?_) (a' := ?_) #[T_, T_, T_, T_, T_, T_, T_, T_, T_, F_, F_, F_, F_, F_] rfl rfl (take_ofW HT_.out HW_.out (by kernel_rfl)) (fun _ _ _ h => h) (Or.inl ⟨by rfl, ?_⟩) hHeld ?_ ?_; rotate_left
   ·rintro w' ⟨s0, s1, s2, s3, s4, s5, s6, s7⟩
    go_simp
    with_reducible rfl
   rotate_left
   ·simp only [Act.put, la_, lz_, ls_, i64_w, i32_w]
    rfl
   refine take_ (i := 10) (N := some 15) (v := ?_) (a' := ?_) #[T_, T_, T_, T_, T_, T_, T_, T_, T_, F_, T_, F_, F_, F_] rfl rfl (take_ofW HT_.out HW_.out (by kernel_rfl)) (fun _ _ _ h => h) (Or.inl ⟨by rfl, ?_⟩) hHeld ?_ ?_; rotate_left
   ·rintro w' ⟨s0, s1, s2, s3, s4, s5, s6, s7⟩
    go_simp
    with_reducible rfl
   rotate_left
   ·simp only [Act.put, la_, lz_, ls_, i64_w, i32_w]
    rfl
   refine one_ (i := 9) (N := some 14) #[T_, T_, T_, T_, T_, T_, T_, T_, T_, T_, T_, F_, F_, F_] rfl rfl (one_of HT_.out (by kernel_rfl)) (by decide) (fun K hK => ?_); refine goes_ Try.func53 (by kernel_rfl) rfl #[.agg #[.int .i64 a0_0, .int .i64 a0_1, .int .i64 a0_2, .int .i64 a0_3], .agg #[.int .i64 a1_0, .int .i64 a1_1, .int .i64 a1_2, .int .i64 a1_3]] (by rfl) rfl rfl q140_ ?_
   with_reducible refine (rect_Intersect.calls k a0_0 a0_1 a0_2 a0_3 a1_0 a1_1 a1_2 a1_3 t177 t178 t179 t180 _ A7.out).mono ?_
   rintro e w13 ⟨rfl, hb⟩; refine ⟨_, rfl, ?_⟩; have n0_ := am_ (blk_below (g := gb173) (o := .cells #[.int .i64 a0_0, .int .i64 a0_1, .int .i64 a0_2, .int .i64 a0_3] 32 (0, 0)) q155_ hb); have n1_ := am_ (blk_below (g := gb174) (o := .cells #[.int .i64 a1_0, .int .i64 a1_1, .int .i64 a1_2, .int .i64 a1_3] 32 (0, 0)) q156_ hb); have n2_ := am_ (below_step q91_ hb); clear BK173 BK174 HB; have BK173 := n0_; have BK174 := n1_; have HB := n2_; clear n0_ n1_ n2_; (try clear hb); (try clear hb2); (try clear hk); (try clear hi); refine hK.out _ _ ⟨bc0_ BK173.out, bc1_ BK173.out, bc2_ BK173.out, bc3_ BK173.out, bc0_ BK174.out, bc1_ BK174.out, bc2_ BK174.out, bc3_ BK174.out⟩ (fun hHeld => ?_); clear hK K; refine norm_ (a' := ?_) ?_ ?_; rotate_left
   ·show Act.put _ (some 14) _ = _
    simp only [Act.put, la_, lz_, ls_, i64_w, i32_w]; rfl
   refine pure_ (i := 11) (N := some 16) (v := ?_) (a' := ?_) #[T_, T_, T_, T_, T_, T_, T_, T_, T_, T_, T_, T_, F_, F_] rfl rfl (any_of HT_.out (by kernel_rfl)) (fun _ _ _ h => h) (Or.inl ⟨by rfl, ?_⟩) ?_ ?_; rotate_left
   ·intro w'
    go_simp
    with_reducible rfl
   rotate_left
   ·simp only [Act.put, la_, lz_, ls_, i64_w, i32_w]
    rfl
   refine pure_ (i := 12) (N := some 17) (v := ?_) (a' := ?_) #[T_, T_, T_, T_, T_, T_, T_, T_, T_, T_, T_, T_, T_, F_] rfl rfl (any_of HT_.out (by kernel_rfl)) (fun _ _ _ h => h) (Or.inl ⟨by rfl, ?_⟩) ?_ ?_; rotate_left
   ·intro w'
    go_simp
    with_reducible rfl
   rotate_left
   ·simp only [Act.put, la_, lz_, ls_, i64_w, i32_w]
    rfl
   refine pure_ (i := 13) (N := some 4) (v := ?_) (a' := ?_) #[T_, T_, T_, T_, T_, T_, T_, T_, T_, T_, T_, T_, T_, T_] rfl rfl (any_of HT_.out (by kernel_rfl)) (fun _ _ _ h => h) (Or.inl ⟨by rfl, ?_⟩) ?_ ?_; rotate_left
   ·intro w'
    go_simp
    with_reducible rfl
   rotate_left
   ·simp only [Act.put, la_, lz_, ls_, i64_w, i32_w]
    rfl
   refine done_ (done_of HT_.out (by kernel_rfl)) ?_
   try go_wp2
   go_ret
   exact ⟨q211_, q91_⟩
  ·replace c6 := Bool.eq_false_iff.mpr c6
   subst c6; have H1 : (some false) = some r := by rw [if_neg (show ¬ (false = true) by decide)] at H; exact H
   clear H; have H := H1; clear H1; obtain rfl := Option.some.inj H
   go_enter Try.func33, Try.ntmps33
   try go_wp2_with (first | ((with_reducible refine gate_dst (N := 2) rfl ?_); refine box_event ?hg (N := 2) ?hd (cs := #[.int .i64 a0_0, .int .i64 a0_1, .int .i64 a0_2, .int .i64 a0_3]) (t := 32) ?hr ?_; (case hd => rfl); (case hg => rfl); (case hr => first | (go_simp; done) | (go_simp; rfl)); intro gb173 hg w14 hbox hb; have n0_ := am_ (below_step q143_ hb); have n1_ := am_ (hbox); have n2_ := am_ ((q108_ : w.heap.size ≤ gb173)); have n3_ := am_ ((q108_ : w.heap.size ≤ gb173)); clear HB; have HB := n0_; have BK173 := n1_; have GW173 := n2_; have GE173 := n3_; clear n0_ n1_ n2_ n3_; clear hb hbox hg) | ((with_reducible refine gate_dst (N := 3) rfl ?_); refine box_event ?hg (N := 3) ?hd (cs := #[.int .i64 a1_0, .int .i64 a1_1, .int .i64 a1_2, .int .i64 a1_3]) (t := 32) ?hr ?_; (case hd => rfl); (case hg => rfl); (case hr => first | (go_simp; done) | (go_simp; rfl)); intro gb174 hg w15 hbox hb; have n0_ := am_ (blk_below (g := gb173) (o := .cells #[.int .i64 a0_0, .int .i64 a0_1, .int .i64 a0_2, .int .i64 a0_3] 32 (0, 0)) q155_ hb); have n1_ := am_ (below_step q116_ hb); have n2_ := am_ (hbox); have n3_ := am_ ((q82_ : w.heap.size ≤ gb174)); have n4_ := am_ ((q82_ : w.heap.size ≤ gb174)); have n5_ := am_ ((q39_ : gb173 ≠ gb174)); have n6_ := am_ ((q40_ : gb174 ≠ gb173)); clear BK173 HB; have BK173 := n0_; have HB := n1_; have BK174 := n2_; have GW174 := n3_; have GE174 := n4_; have NB173_174 := n5_; have NB174_173 := n6_; clear n0_ n1_ n2_ n3_ n4_ n5_ n6_; clear hb hbox hg))
   have n0_ := am_ (blk_drew BK173.out); have n1_ := am_ (blk_drew BK174.out); have n2_ := am_ (below_drew1 HB.out); clear BK173 BK174 HB; have BK173 := n0_; have BK174 := n1_; have HB := n2_; clear n0_ n1_ n2_; refine start_ (n := 14) (S := fun w' => w'.cell? ⟨gb173, 0, none⟩ = some (.int .i64 a0_0) ∧ w'.cell? ⟨gb173, 1, none⟩ = some (.int .i64 a0_1) ∧ w'.cell? ⟨gb173, 2, none⟩ = some (.int .i64 a0_2) ∧ w'.cell? ⟨gb173, 3, none⟩ = some (.int .i64 a0_3) ∧ w'.cell? ⟨gb174, 0, none⟩ = some (.int .i64 a1_0) ∧ w'.cell? ⟨gb174, 1, none⟩ = some (.int .i64 a1_1) ∧ w'.cell? ⟨gb174, 2, none⟩ = some (.int .i64 a1_2) ∧ w'.cell? ⟨gb174, 3, none⟩ = some (.int .i64 a1_3)) (ds := []) #[F_, F_, F_, F_, F_, F_, F_, F_, F_, F_, F_, F_, F_, F_] (by kernel_rfl) rfl rfl ⟨bc0_ BK173.out, bc1_ BK173.out, bc2_ BK173.out, bc3_ BK173.out, bc0_ BK174.out, bc1_ BK174.out, bc2_ BK174.out, bc3_ BK174.out⟩ (fun hHeld => ?_); refine with_tabW rect_Inside.tab1 rect_Inside.bits1 (fun HT_ HW_ => ?_); generalize w15.drew = w16 at BK173 BK174 HB hHeld ⊢; refine take_ (i := 0) (N := some 5) (v := ?_) (a' := ?_) #[T_, F_, F_, F_, F_, F_, F_, F_, F_, F_, F_, F_, F_, F_] rfl rfl (take_ofW HT_.out HW_.out (by kernel_rfl)) (fun _ _ _ h => h) (Or.inl ⟨by rfl, ?_⟩) hHeld ?_ ?_; rotate_left
   ·rintro w' ⟨s0, s1, s2, s3, s4, s5, s6, s7⟩
    go_simp
    with_reducible rfl
   rotate_left
   ·simp only [Act.put, la_, lz_, ls_, i64_w, i32_w]
    rfl
   refine one_ (i := 1) (N := some 6) #[T_, T_, F_, F_, F_, F_, F_, F_, F_, F_, F_, F_, F_, F_] rfl rfl (one_of HT_.out (by kernel_rfl)) (by decide) (fun K hK => ?_); refine goes_ Try.func52 (by kernel_rfl) rfl #[.agg #[.int .i64 a0_0, .int .i64 a0_1, .int .i64 a0_2, .int .i64 a0_3]] (by rfl) rfl rfl q140_ ?_
   with_reducible refine (rect_Valid.calls a0_0 a0_1 a0_2 a0_3 true _ A3.out).mono ?_
   rintro e w17 ⟨rfl, hb⟩; refine ⟨_, rfl, ?_⟩; have n0_ := am_ (blk_below (g := gb173) (o := .cells #[.int .i64 a0_0, .int .i64 a0_1, .int .i64 a0_2, .int .i64 a0_3] 32 (0, 0)) q155_ hb); have n1_ := am_ (blk_below (g := gb174) (o := .cells #[.int .i64 a1_0, .int .i64 a1_1, .int .i64 a1_2, .int .i64 a1_3] 32 (0, 0)) q156_ hb); have n2_ := am_ (below_step q91_ hb); clear BK173 BK174 HB; have BK173 := n0_; have BK174 := n1_; have HB := n2_; clear n0_ n1_ n2_; (try clear hb); (try clear hb2); (try clear hk); (try clear hi); refine hK.out _ _ ⟨bc0_ BK173.out, bc1_ BK173.out, bc2_ BK173.out, bc3_ BK173.out, bc0_ BK174.out, bc1_ BK174.out, bc2_ BK174.out, bc3_ BK174.out⟩ (fun hHeld => ?_); clear hK K; refine norm_ (a' := ?_) ?_ ?_; rotate_left
   ·show Act.put _ (some 6) _ = _
    simp only [Act.put, la_, lz_, ls_, i64_w, i32_w]; rfl
   refine pure_ (i := 2) (N := some 7) (v := ?_) (a' := ?_) #[T_, T_, T_, F_, F_, F_, F_, F_, F_, F_, F_, F_, F_, F_] rfl rfl (any_of HT_.out (by kernel_rfl)) (fun _ _ _ h => h) (Or.inl ⟨by rfl, ?_⟩) ?_ ?_; rotate_left
   ·intro w'
    go_simp
    with_reducible rfl
   rotate_left
   ·simp only [Act.put, la_, lz_, ls_, i64_w, i32_w]
    rfl
   refine take_ (i := 3) (N := some 8) (v := ?_) (a' := ?_) #[T_, T_, T_, T_, F_, F_, F_, F_, F_, F_, F_, F_, F_, F_] rfl rfl (take_ofW HT_.out HW_.out (by kernel_rfl)) (fun _ _ _ h => h) (Or.inl ⟨by rfl, ?_⟩) hHeld ?_ ?_; rotate_left
   ·rintro w' ⟨s0, s1, s2, s3, s4, s5, s6, s7⟩
    go_simp
    with_reducible rfl
   rotate_left
   ·simp only [Act.put, la_, lz_, ls_, i64_w, i32_w]
    rfl
   refine one_ (i := 4) (N := some 9) #[T_, T_, T_, T_, T_, F_, F_, F_, F_, F_, F_, F_, F_, F_] rfl rfl (one_of HT_.out (by kernel_rfl)) (by decide) (fun K hK => ?_); refine goes_ Try.func52 (by kernel_rfl) rfl #[.agg #[.int .i64 a1_0, .int .i64 a1_1, .int .i64 a1_2, .int .i64 a1_3]] (by rfl) rfl rfl q140_ ?_
   with_reducible refine (rect_Valid.calls a1_0 a1_1 a1_2 a1_3 false _ A5.out).mono ?_
   rintro e w18 ⟨rfl, hb⟩; refine ⟨_, rfl, ?_⟩; have n0_ := am_ (blk_below (g := gb173) (o := .cells #[.int .i64 a0_0, .int .i64 a0_1, .int .i64 a0_2, .int .i64 a0_3] 32 (0, 0)) q155_ hb); have n1_ := am_ (blk_below (g := gb174) (o := .cells #[.int .i64 a1_0, .int .i64 a1_1, .int .i64 a1_2, .int .i64 a1_3] 32 (0, 0)) q156_ hb); have n2_ := am_ (below_step q91_ hb); clear BK173 BK174 HB; have BK173 := n0_; have BK174 := n1_; have HB := n2_; clear n0_ n1_ n2_; (try clear hb); (try clear hb2); (try clear hk); (try clear hi); refine hK.out _ _ ⟨bc0_ BK173.out, bc1_ BK173.out, bc2_ BK173.out, bc3_ BK173.out, bc0_ BK174.out, bc1_ BK174.out, bc2_ BK174.out, bc3_ BK174.out⟩ (fun hHeld => ?_); clear hK K; refine norm_ (a' := ?_) ?_ ?_; rotate_left
   ·show Act.put _ (some 9) _ = _
    simp only [Act.put, la_, lz_, ls_, i64_w, i32_w]; rfl
   refine pure_ (i := 5) (N := some 10) (v := ?_) (a' := ?_) #[T_, T_, T_, T_, T_, T_, F_, F_, F_, F_, F_, F_, F_, F_] rfl rfl (any_of HT_.out (by kernel_rfl)) (fun _ _ _ h => h) (Or.inl ⟨by rfl, ?_⟩) ?_ ?_; rotate_left
   ·intro w'
    go_simp
    with_reducible rfl
   rotate_left
   ·simp only [Act.put, la_, lz_, ls_, i64_w, i32_w]
    rfl
   refine pure_ (i := 6) (N := some 11) (v := ?_) (a' := ?_) #[T_, T_, T_, T_, T_, T_, T_, F_, F_, F_, F_, F_, F_, F_] rfl rfl (any_of HT_.out (by kernel_rfl)) (fun _ _ _ h => h) (Or.inl ⟨by rfl, ?_⟩) ?_ ?_; rotate_left
   ·intro w'
    go_simp
    with_reducible rfl
   rotate_left
   ·simp only [Act.put, la_, lz_, ls_, i64_w, i32_w]
    rfl
   refine pure_ (i := 7) (N := some 12) (v := undef) (a' := ?_) #[T_, T_, T_, T_, T_, T_, T_, T_, F_, F_, F_, F_, F_, F_] rfl rfl (any_of HT_.out (by kernel_rfl)) (fun _ _ _ h => h) (Or.inr ⟨by rfl, rfl⟩) ?_ ?_; rotate_left
   ·simp only [Act.put, la_, lz_, ls_, i64_w, i32_w]
    rfl
   refine pure_ (i := 8) (N := some 13) (v := undef) (a' := ?_) #[T_, T_, T_, T_, T_, T_, T_, T_, T_, F_, F_, F_, F_, F_] rfl rfl (any_of HT_.out (by kernel_rfl)) (fun _ _ _ h => h) (Or.inr ⟨by rfl, rfl⟩) ?_ ?_; rotate_left
   ·simp only [Act.put, la_, lz_, ls_, i64_w, i32_w]
    rfl
   refine pure_ (i := 9) (N := some 14) (v := undef) (a' := ?_) #[T_, T_, T_, T_, T_, T_, T_, T_, T_, T_, F_, F_, F_, F_] rfl rfl (any_of HT_.out (by kernel_rfl)) (fun _ _ _ h => h) (Or.inr ⟨by rfl, rfl⟩) ?_ ?_; rotate_left
   ·simp only [Act.put, la_, lz_, ls_, i64_w, i32_w]
    rfl
   refine pure_ (i := 10) (N := some 15) (v := undef) (a' := ?_) #[T_, T_, T_, T_, T_, T_, T_, T_, T_, T_, T_, F_, F_, F_] rfl rfl (any_of HT_.out (by kernel_rfl)) (fun _ _ _ h => h) (Or.inr ⟨by rfl, rfl⟩) ?_ ?_; rotate_left
   ·simp only [Act.put, la_, lz_, ls_, i64_w, i32_w]
    rfl
   refine pure_ (i := 11) (N := some 16) (v := undef) (a' := ?_) #[T_, T_, T_, T_, T_, T_, T_, T_, T_, T_, T_, T_, F_, F_] rfl rfl (any_of HT_.out (by kernel_rfl)) (fun _ _ _ h => h) (Or.inr ⟨by rfl, rfl⟩) ?_ ?_; rotate_left
   ·simp only [Act.put, la_, lz_, ls_, i64_w, i32_w]
    rfl
   refine pure_ (i := 12) (N := some 17) (v := ?_) (a' := ?_) #[T_, T_, T_, T_, T_, T_, T_, T_, T_, T_, T_, T_, T_, F_] rfl rfl (any_of HT_.out (by kernel_rfl)) (fun _ _ _ h => h) (Or.inl ⟨by rfl, ?_⟩) ?_ ?_; rotate_left
   ·intro w'
    go_simp
    with_reducible rfl
   rotate_left
   ·simp only [Act.put, la_, lz_, ls_, i64_w, i32_w]
    rfl
   refine pure_ (i := 13) (N := some 4) (v := ?_) (a' := ?_) #[T_, T_, T_, T_, T_, T_, T_, T_, T_, T_, T_, T_, T_, T_] rfl rfl (any_of HT_.out (by kernel_rfl)) (fun _ _ _ h => h) (Or.inl ⟨by rfl, ?_⟩) ?_ ?_; rotate_left
   ·intro w'
    go_simp
    with_reducible rfl
   rotate_left
   ·simp only [Act.put, la_, lz_, ls_, i64_w, i32_w]
    rfl
   refine done_ (done_of HT_.out (by kernel_rfl)) ?_
   try go_wp2
   go_ret
   exact ⟨q211_, q91_⟩
 ·replace c4 := Bool.eq_false_iff.mpr c4
  subst c4; have H1 : (some false) = some r := by rw [if_neg (show ¬ (false = true) by decide)] at H; exact H
  clear H; have H := H1; clear H1; obtain rfl := Option.some.inj H
  go_enter Try.func33, Try.ntmps33
  try go_wp2_with (first | ((with_reducible refine gate_dst (N := 2) rfl ?_); refine box_event ?hg (N := 2) ?hd (cs := #[.int .i64 a0_0, .int .i64 a0_1, .int .i64 a0_2, .int .i64 a0_3]) (t := 32) ?hr ?_; (case hd => rfl); (case hg => rfl); (case hr => first | (go_simp; done) | (go_simp; rfl)); intro gb173 hg w19 hbox hb; have n0_ := am_ (below_step q143_ hb); have n1_ := am_ (hbox); have n2_ := am_ ((q108_ : w.heap.size ≤ gb173)); have n3_ := am_ ((q108_ : w.heap.size ≤ gb173)); clear HB; have HB := n0_; have BK173 := n1_; have GW173 := n2_; have GE173 := n3_; clear n0_ n1_ n2_ n3_; clear hb hbox hg) | ((with_reducible refine gate_dst (N := 3) rfl ?_); refine box_event ?hg (N := 3) ?hd (cs := #[.int .i64 a1_0, .int .i64 a1_1, .int .i64 a1_2, .int .i64 a1_3]) (t := 32) ?hr ?_; (case hd => rfl); (case hg => rfl); (case hr => first | (go_simp; done) | (go_simp; rfl)); intro gb174 hg w20 hbox hb; have n0_ := am_ (blk_below (g := gb173) (o := .cells #[.int .i64 a0_0, .int .i64 a0_1, .int .i64 a0_2, .int .i64 a0_3] 32 (0, 0)) q155_ hb); have n1_ := am_ (below_step q116_ hb); have n2_ := am_ (hbox); have n3_ := am_ ((q82_ : w.heap.size ≤ gb174)); have n4_ := am_ ((q82_ : w.heap.size ≤ gb174)); have n5_ := am_ ((q39_ : gb173 ≠ gb174)); have n6_ := am_ ((q40_ : gb174 ≠ gb173)); clear BK173 HB; have BK173 := n0_; have HB := n1_; have BK174 := n2_; have GW174 := n3_; have GE174 := n4_; have NB173_174 := n5_; have NB174_173 := n6_; clear n0_ n1_ n2_ n3_ n4_ n5_ n6_; clear hb hbox hg))
  have n0_ := am_ (blk_drew BK173.out); have n1_ := am_ (blk_drew BK174.out); have n2_ := am_ (below_drew1 HB.out); clear BK173 BK174 HB; have BK173 := n0_; have BK174 := n1_; have HB := n2_; clear n0_ n1_ n2_; refine start_ (n := 14) (S := fun w' => w'.cell? ⟨gb173, 0, none⟩ = some (.int .i64 a0_0) ∧ w'.cell? ⟨gb173, 1, none⟩ = some (.int .i64 a0_1) ∧ w'.cell? ⟨gb173, 2, none⟩ = some (.int .i64 a0_2) ∧ w'.cell? ⟨gb173, 3, none⟩ = some (.int .i64 a0_3)) (ds := []) #[F_, F_, F_, F_, F_, F_, F_, F_, F_, F_, F_, F_, F_, F_] (by kernel_rfl) rfl rfl ⟨bc0_ BK173.out, bc1_ BK173.out, bc2_ BK173.out, bc3_ BK173.out⟩ (fun hHeld => ?_); refine with_tabW rect_Inside.tab1 rect_Inside.bits1 (fun HT_ HW_ => ?_); generalize w20.drew = w21 at BK173 BK174 HB hHeld ⊢; refine take_ (i := 0) (N := some 5) (v := ?_) (a' := ?_) #[T_, F_, F_, F_, F_, F_, F_, F_, F_, F_, F_, F_, F_, F_] rfl rfl (take_ofW HT_.out HW_.out (by kernel_rfl)) (fun _ _ _ h => h) (Or.inl ⟨by rfl, ?_⟩) hHeld ?_ ?_; rotate_left
  ·rintro w' ⟨s0, s1, s2, s3⟩
   go_simp
   with_reducible rfl
  rotate_left
  ·simp only [Act.put, la_, lz_, ls_, i64_w, i32_w]
   rfl
  refine one_ (i := 1) (N := some 6) #[T_, T_, F_, F_, F_, F_, F_, F_, F_, F_, F_, F_, F_, F_] rfl rfl (one_of HT_.out (by kernel_rfl)) (by decide) (fun K hK => ?_); refine goes_ Try.func52 (by kernel_rfl) rfl #[.agg #[.int .i64 a0_0, .int .i64 a0_1, .int .i64 a0_2, .int .i64 a0_3]] (by rfl) rfl rfl q140_ ?_
  with_reducible refine (rect_Valid.calls a0_0 a0_1 a0_2 a0_3 false _ A3.out).mono ?_
  rintro e w22 ⟨rfl, hb⟩; refine ⟨_, rfl, ?_⟩; have n0_ := am_ (blk_below (g := gb173) (o := .cells #[.int .i64 a0_0, .int .i64 a0_1, .int .i64 a0_2, .int .i64 a0_3] 32 (0, 0)) q155_ hb); have n1_ := am_ (blk_below (g := gb174) (o := .cells #[.int .i64 a1_0, .int .i64 a1_1, .int .i64 a1_2, .int .i64 a1_3] 32 (0, 0)) q156_ hb); have n2_ := am_ (below_step q91_ hb); clear BK173 BK174 HB; have BK173 := n0_; have BK174 := n1_; have HB := n2_; clear n0_ n1_ n2_; (try clear hb); (try clear hb2); (try clear hk); (try clear hi); refine hK.out _ _ ⟨bc0_ BK173.out, bc1_ BK173.out, bc2_ BK173.out, bc3_ BK173.out⟩ (fun hHeld => ?_); clear hK K; refine norm_ (a' := ?_) ?_ ?_; rotate_left
  ·show Act.put _ (some 6) _ = _
   simp only [Act.put, la_, lz_, ls_, i64_w, i32_w]; rfl
  refine pure_ (i := 2) (N := some 7) (v := ?_) (a' := ?_) #[T_, T_, T_, F_, F_, F_, F_, F_, F_, F_, F_, F_, F_, F_] rfl rfl (any_of HT_.out (by kernel_rfl)) (fun _ _ _ h => h) (Or.inl ⟨by rfl, ?_⟩) ?_ ?_; rotate_left
  ·intro w'
   go_simp
   with_reducible rfl
  rotate_left
  ·simp only [Act.put, la_, lz_, ls_, i64_w, i32_w]
   rfl
  refine pure_ (i := 3) (N := some 8) (v := undef) (a' := ?_) #[T_, T_, T_, T_, F_, F_, F_, F_, F_, F_, F_, F_, F_, F_] rfl rfl (any_of HT_.out (by kernel_rfl)) (fun _ _ _ h => h) (Or.inr ⟨by rfl, rfl⟩) ?_ ?_; rotate_left
  ·simp only [Act.put, la_, lz_, ls_, i64_w, i32_w]
   rfl
  refine pure_ (i := 4) (N := some 9) (v := undef) (a' := ?_) #[T_, T_, T_, T_, T_, F_, F_, F_, F_, F_, F_, F_, F_, F_] rfl rfl (any_of HT_.out (by kernel_rfl)) (fun _ _ _ h => h) (Or.inr ⟨by rfl, rfl⟩) ?_ ?_; rotate_left
  ·simp only [Act.put, la_, lz_, ls_, i64_w, i32_w]
   rfl
  refine pure_ (i := 5) (N := some 10) (v := ?_) (a' := ?_) #[T_, T_, T_, T_, T_, T_, F_, F_, F_, F_, F_, F_, F_, F_] rfl rfl (any_of HT_.out (by kernel_rfl)) (fun _ _ _ h => h) (Or.inl ⟨by rfl, ?_⟩) ?_ ?_; rotate_left
  ·intro w'
   go_simp
   with_reducible rfl
  rotate_left
  ·simp only [Act.put, la_, lz_, ls_, i64_w, i32_w]
   rfl
  refine pure_ (i := 6) (N := some 11) (v := ?_) (a' := ?_) #[T_, T_, T_, T_, T_, T_, T_, F_, F_, F_, F_, F_, F_, F_] rfl rfl (any_of HT_.out (by kernel_rfl)) (fun _ _ _ h => h) (Or.inl ⟨by rfl, ?_⟩) ?_ ?_; rotate_left
  ·intro w'
   go_simp
   with_reducible rfl
  rotate_left
  ·simp only [Act.put, la_, lz_, ls_, i64_w, i32_w]
   rfl
  refine pure_ (i := 7) (N := some 12) (v := undef) (a' := ?_) #[T_, T_, T_, T_, T_, T_, T_, T_, F_, F_, F_, F_, F_, F_] rfl rfl (any_of HT_.out (by kernel_rfl)) (fun _ _ _ h => h) (Or.inr ⟨by rfl, rfl⟩) ?_ ?_; rotate_left
  ·simp only [Act.put, la_, lz_, ls_, i64_w, i32_w]
   rfl
  refine pure_ (i := 8) (N := some 13) (v := undef) (a' := ?_) #[T_, T_, T_, T_, T_, T_, T_, T_, T_, F_, F_, F_, F_, F_] rfl rfl (any_of HT_.out (by kernel_rfl)) (fun _ _ _ h => h) (Or.inr ⟨by rfl, rfl⟩) ?_ ?_; rotate_left
  ·simp only [Act.put, la_, lz_, ls_, i64_w, i32_w]
   rfl
  refine pure_ (i := 9) (N := some 14) (v := undef) (a' := ?_) #[T_, T_, T_, T_, T_, T_, T_, T_, T_, T_, F_, F_, F_, F_] rfl rfl (any_of HT_.out (by kernel_rfl)) (fun _ _ _ h => h) (Or.inr ⟨by rfl, rfl⟩) ?_ ?_; rotate_left
  ·simp only [Act.put, la_, lz_, ls_, i64_w, i32_w]
   rfl
  refine pure_ (i := 10) (N := some 15) (v := undef) (a' := ?_) #[T_, T_, T_, T_, T_, T_, T_, T_, T_, T_, T_, F_, F_, F_] rfl rfl (any_of HT_.out (by kernel_rfl)) (fun _ _ _ h => h) (Or.inr ⟨by rfl, rfl⟩) ?_ ?_; rotate_left
  ·simp only [Act.put, la_, lz_, ls_, i64_w, i32_w]
   rfl
  refine pure_ (i := 11) (N := some 16) (v := undef) (a' := ?_) #[T_, T_, T_, T_, T_, T_, T_, T_, T_, T_, T_, T_, F_, F_] rfl rfl (any_of HT_.out (by kernel_rfl)) (fun _ _ _ h => h) (Or.inr ⟨by rfl, rfl⟩) ?_ ?_; rotate_left
  ·simp only [Act.put, la_, lz_, ls_, i64_w, i32_w]
   rfl
  refine pure_ (i := 12) (N := some 17) (v := ?_) (a' := ?_) #[T_, T_, T_, T_, T_, T_, T_, T_, T_, T_, T_, T_, T_, F_] rfl rfl (any_of HT_.out (by kernel_rfl)) (fun _ _ _ h => h) (Or.inl ⟨by rfl, ?_⟩) ?_ ?_; rotate_left
  ·intro w'
   go_simp
   with_reducible rfl
  rotate_left
  ·simp only [Act.put, la_, lz_, ls_, i64_w, i32_w]
   rfl
  refine pure_ (i := 13) (N := some 4) (v := ?_) (a' := ?_) #[T_, T_, T_, T_, T_, T_, T_, T_, T_, T_, T_, T_, T_, T_] rfl rfl (any_of HT_.out (by kernel_rfl)) (fun _ _ _ h => h) (Or.inl ⟨by rfl, ?_⟩) ?_ ?_; rotate_left
  ·intro w'
   go_simp
   with_reducible rfl
  rotate_left
  ·simp only [Act.put, la_, lz_, ls_, i64_w, i32_w]
   rfl
  refine done_ (done_of HT_.out (by kernel_rfl)) ?_
  try go_wp2
  go_ret
  exact ⟨q211_, q91_⟩


def integral_Tile_1.l0 : Nat → List Int → Int → Int → Int → Option (Bool)
 | 0, _, _, _, _ => none
 | k + 1, x6, x7, x8, x2000 => if x8 < x7 then (if 0 ≤ x8 then (if x8 < (x6.length : Int) then (if (rd x6 x8) < 0 then (some false) else (if (rd x6 x8) > x2000 then (some false) else (integral_Tile_1.l0 k x6 x7 (wrap64 (x8 + 1)) x2000))) else (none)) else (none)) else (some true)
def integral_Tile_1.f (k : Nat) (l0 : List Int) (a1_0 : Int) : Option (Bool) := integral_Tile_1.l0 k l0 (l0.length : Int) 0 a1_0
theorem integral_Tile_1.mono_l : ∀ k, (∀ y0 y1 y2 y3, LeO (integral_Tile_1.l0 k y0 y1 y2 y3) (integral_Tile_1.l0 (k + 1) y0 y1 y2 y3))
 | 0 => fun _ _ _ _ r h => by simp [integral_Tile_1.l0] at h
 | k + 1 => by
  have ih0 := integral_Tile_1.mono_l k
  ·intro y0 y1 y2 y3
   unfold integral_Tile_1.l0
   repeat' first
   | (with_reducible exact ih0 _ _ _ _)
   | (with_reducible exact LeO.refl _)
   | (with_reducible exact LeO.none _)
   | (with_reducible refine LeO.ite ?_ ?_)
   | (with_reducible refine LeO.bind ?_ (fun _ => ?_))
   | exact ih0 _ _ _ _
   | exact LeO.none _
   | refine LeO.ite ?_ ?_
   | refine LeO.bind ?_ (fun _ => ?_)
theorem integral_Tile_1.mono : ∀ a0 a1 k, LeO (integral_Tile_1.f k a0 a1) (integral_Tile_1.f (k + 1) a0 a1) := by
 intro a0 a1 k; have ih0 := integral_Tile_1.mono_l k; unfold integral_Tile_1.f
 repeat' first
   | (with_reducible exact ih0 _ _ _ _)
   | (with_reducible exact LeO.refl _)
   | (with_reducible exact LeO.none _)
   | (with_reducible refine LeO.ite ?_ ?_)
   | (with_reducible refine LeO.bind ?_ (fun _ => ?_))
   | exact ih0 _ _ _ _
   | exact LeO.none _
   | refine LeO.ite ?_ ?_
   | refine LeO.bind ?_ (fun _ => ?_)
set_option maxHeartbeats 8000000 in
set_option maxRecDepth 100000 in
theorem integral_Tile_1.calls (k : Nat) (A0 : Option Addr) (c0 : Nat) (l0 : List Int) (B1 : Nat) (a1_0 : Int) (r : Bool) (w : World) (hr0 : Kd.C (Kd.int .i64) w A0 l0.length l0) (hc0 : l0.length ≤ c0) (hb1 : w.heap[B1]? = some (.cells #[.int .i64 a1_0] 3 (0, 0))) (h : integral_Tile_1.f k l0 a1_0 = some r) :
  Calls Try.prog 46 #[.slice A0 l0.length c0, .pointer (some ⟨B1, 0, none⟩)] w fun e w' => e = .returned (.bool r) ∧ Below w.heap.size w w' := by
 have HR0 := am_ hr0; have HC0 := am_ hc0; clear hr0 hc0; have BK1 := am_ hb1; clear hb1; have HB := am_ (Below.refl w.heap.size w); have H : (integral_Tile_1.l0 k l0 (l0.length : Int) 0 a1_0) = some r := h; clear h; have H' := am_ H; clear H
 go_enter Try.func46, Try.ntmps46
 go_wp2
 go_loopg [8] k (fun kq v8 w' => ∃ (x8_1 : Int), v8 = .int .i64 x8_1 ∧ Aside0 (integral_Tile_1.l0 kq l0 (l0.length : Int) x8_1 a1_0 = some r) ∧ Aside0 (kq ≤ k) ∧ Aside0 (w'.heap[B1]? = some (.cells #[.int .i64 a1_0] 3 (0, 0))) ∧ Aside0 (Below w.heap.size w w'))
 case atStart => exact ⟨(0), q217_, H', ⟨Nat.le_refl _⟩, ⟨by (with_reducible repeat (first | refine blk_drewN ?_ _ | refine blk_drew ?_ | refine blk_alloc ?_ _)); exact BK1.out⟩, ⟨q135_⟩⟩
 case round =>
  clear H'; (try clear p2); obtain ⟨x8_1, rfl, HA, HK1, BK1, HB⟩ := hrel; cases gk with
  | zero => exact absurd HA.out (by simp [integral_Tile_1.l0])
  | succ k1 =>
   have H := HA.out; clear HA; simp only [integral_Tile_1.l0] at H
   by_cases c3 : x8_1 < (l0.length : Int)
   ·rw [if_pos c3] at H
    have c3b0 : decide (x8_1 < (l0.length : Int)) = true := decide_eq_true c3; clear c3
    by_cases c4 : 0 ≤ x8_1
    ·rw [if_pos c4] at H
     have c4b0 : decide (0 ≤ x8_1) = true := decide_eq_true c4; clear c4
     by_cases c5 : x8_1 < (l0.length : Int)
     ·rw [if_pos c5] at H
      have c5b0 : decide (x8_1 < (l0.length : Int)) = true := decide_eq_true c5; clear c5
      by_cases c6 : (rd l0 x8_1) < 0
      ·rw [if_pos c6] at H
       have c6b0 : decide ((rd l0 x8_1) < 0) = true := decide_eq_true c6; clear c6; obtain rfl := Option.some.inj H; have p181 : 0 ≤ (x8_1 : Int) := of_decide_eq_true q216_; have q181 : x8_1 < (l0.length : Int) := of_decide_eq_true q216_; obtain ⟨ad181, e181, hx181_0⟩ := Kd.at_int HR0.out x8_1 p181 q181; cases e181; replace hx181_0 := (HB.out.cell (World.block_lt_of_cell? w _ hx181_0)).trans hx181_0; replace p181 := eq_true p181; replace q181 := eq_true q181
       go_wp2
       go_ret
       exact ⟨q211_, q135_⟩
      ·rw [if_neg c6] at H
       have c6b0 : decide ((rd l0 x8_1) < 0) = false := decide_eq_false c6; clear c6
       by_cases c7 : (rd l0 x8_1) > a1_0
       ·rw [if_pos c7] at H
        have c7b0 : decide (a1_0 < (rd l0 x8_1)) = true := decide_eq_true c7; clear c7; obtain rfl := Option.some.inj H; have p181 : 0 ≤ (x8_1 : Int) := of_decide_eq_true q216_; have q181 : x8_1 < (l0.length : Int) := of_decide_eq_true q216_; obtain ⟨ad181, e181, hx181_0⟩ := Kd.at_int HR0.out x8_1 p181 q181; cases e181; replace hx181_0 := (HB.out.cell (World.block_lt_of_cell? w _ hx181_0)).trans hx181_0; replace p181 := eq_true p181; replace q181 := eq_true q181; have hcz8_0 : wr.cell? ⟨B1, 0, none⟩ = some (.int .i64 a1_0) := bc0_ BK1.out; have hfz8_0 := blk_frozen BK1.out 0
        go_wp2
        go_ret
        exact ⟨q211_, q135_⟩
       ·rw [if_neg c7] at H
        have c7b0 : decide (a1_0 < (rd l0 x8_1)) = false := decide_eq_false c7; clear c7; have H' := am_ H; clear H; have p181 : 0 ≤ (x8_1 : Int) := of_decide_eq_true q216_; have q181 : x8_1 < (l0.length : Int) := of_decide_eq_true q216_; obtain ⟨ad181, e181, hx181_0⟩ := Kd.at_int HR0.out x8_1 p181 q181; cases e181; replace hx181_0 := (HB.out.cell (World.block_lt_of_cell? w _ hx181_0)).trans hx181_0; replace p181 := eq_true p181; replace q181 := eq_true q181; have hcz9_0 : wr.cell? ⟨B1, 0, none⟩ = some (.int .i64 a1_0) := bc0_ BK1.out; have hfz9_0 := blk_frozen BK1.out 0
        go_wp2
        go_roundg k1
        case measure => have := HK1.out; omega
        case rel => exact ⟨(wrap64 (x8_1 + 1)), q217_, H', ⟨by have := HK1.out; omega⟩, ⟨by (with_reducible repeat (first | refine blk_drewN ?_ _ | refine blk_drew ?_ | refine blk_alloc ?_ _)); exact BK1.out⟩, ⟨q135_⟩⟩
     ·rw [if_neg c5] at H
      exact absurd H (by simp)
    ·rw [if_neg c4] at H
     exact absurd H (by simp)
   ·rw [if_neg c3] at H
    have c3b0 : decide (x8_1 < (l0.length : Int)) = false := decide_eq_false c3; clear c3; obtain rfl := Option.some.inj H
    go_wp2
    go_ret
    exact ⟨q211_, q135_⟩

end Go.Proofs.Ytkipnpgcpohlcaa.PIntegralWhole
