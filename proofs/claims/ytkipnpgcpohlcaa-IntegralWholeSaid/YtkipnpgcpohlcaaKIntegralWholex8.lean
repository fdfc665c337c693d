-- Written by a program of the session (wip/tools/pack.py): the printed texts, pruned; checked by Lean.
import Derived.Test.YtkipnpgcpohlcaaKIntegralWholea
import Derived.Test.YtkipnpgcpohlcaaKIntegralWholex0
import Derived.Test.YtkipnpgcpohlcaaKIntegralWholex2
import Derived.Test.YtkipnpgcpohlcaaKIntegralWholex4
import Derived.Test.YtkipnpgcpohlcaaKIntegralWholex7
namespace Go.Proofs.Ytkipnpgcpohlcaa.PIntegralWhole
open Go.RowKit Go.Proofs.YtkipnpgcpohlcaaW.PrintWords Go.Proofs.YtkipnpgcpohlcaaW.PrintLast Go.Proofs.YtkipnpgcpohlcaaW.PrintMore
attribute [local go_sem] max2_int min2_int max_two min_two max_three min_three max_four min_four   -- for this text's walks alone
set_option linter.unusedVariables false
set_option linter.unusedSimpArgs false
def integral_Whole.f (k : Nat) (a0_0 : Int) (a0_1 : Int) (a0_2 : Int) (l0_3 : List Int) : Option (Int × Int × Int × List Int × Int) := (integral_check.f k a0_0 a0_1 a0_2 l0_3).bind fun t216 => (if t216 = 0 then (if 0 ≤ a0_1 then (if (a0_1 : Int).toNat ≤ 35184372088832 then (if 0 ≤ a0_0 then (if (a0_0 : Int).toNat ≤ 35184372088832 then ((integral_Tile.f k a0_0 a0_1 a0_2 l0_3 0 0 a0_0 a0_1 (List.replicate (a0_1 : Int).toNat 0) (List.replicate (a0_0 : Int).toNat 0) 0).bind fun bt223 => (some (bt223.1, bt223.2.1, bt223.2.2.1, bt223.2.2.2.1, bt223.2.2.2.2))) else (none)) else (none)) else (none)) else (none)) else (some (0, 0, 0, ([] : List Int), t216)))
theorem integral_Whole.mono : ∀ a0 a1 a2 a3 k, LeO (integral_Whole.f k a0 a1 a2 a3) (integral_Whole.f (k + 1) a0 a1 a2 a3) := by
 intro a0 a1 a2 a3 k; unfold integral_Whole.f
 repeat' first
   | (with_reducible exact integral_Tile.mono _ _ _ _ _ _ _ _ _ _ _ _)
   | (with_reducible exact integral_check.mono _ _ _ _ _)
   | (with_reducible exact LeO.refl _)
   | (with_reducible exact LeO.none _)
   | (with_reducible refine LeO.ite ?_ ?_)
   | (with_reducible refine LeO.bind ?_ (fun _ => ?_))
   | exact integral_Tile.mono _ _ _ _ _ _ _ _ _ _ _ _
   | exact integral_check.mono _ _ _ _ _
   | exact LeO.none _
   | refine LeO.ite ?_ ?_
   | refine LeO.bind ?_ (fun _ => ?_)
def integral_Whole.T4 : Bool × List (List Nat × List Nat) := (true, [([], []), ([], []), ([1], [1]), ([], []), ([3], [3]), ([2, 4], [2, 4]), ([], []), ([6], [6]), ([7, 7], [7]), ([], []), ([9], [9]), ([10, 10], [10]), ([0, 5, 8, 11], [0, 5, 8, 11]), ([12], [12]), ([12], [12]), ([13, 12, 0, 1, 2, 3, 4, 5, 6, 7, 8, 9, 10, 11, 12, 13, 14], [13]), ([14, 15, 0, 1, 2, 3, 4, 5, 6, 7, 8, 9, 10, 11, 12, 13, 14, 15], [14])])
def integral_Whole.B4 : List Nat := [0, 0, 2, 0, 8, 30, 0, 64, 192, 0, 512, 1536, 4095, 8191, 8191, 32767, 65535]
theorem integral_Whole.tab4 : rtab .any (opsOf Try.f10 4) = integral_Whole.T4 := by kernel_rfl
theorem integral_Whole.bits4 : waitsOk integral_Whole.T4.2 integral_Whole.B4 = true := by kernel_rfl
set_option maxHeartbeats 8000000 in
set_option maxRecDepth 100000 in
theorem integral_Whole.calls (k : Nat) (a0_0 : Int) (a0_1 : Int) (a0_2 : Int) (A0_3 : Option Addr) (c0_3 : Nat) (l0_3 : List Int) (r1 : Int) (r2 : Int) (r3 : Int) (r4 : List Int) (r5 : Int) (w : World) (hr0_3 : Kd.C (Kd.int .i64) w A0_3 l0_3.length l0_3) (hc0_3 : l0_3.length ≤ c0_3) (h : integral_Whole.f k a0_0 a0_1 a0_2 l0_3 = some (r1, r2, r3, r4, r5)) :
  Calls Try.prog 10 #[.agg #[.int .i64 a0_0, .int .i64 a0_1, .int .i64 a0_2, .slice A0_3 l0_3.length c0_3]] w fun e w' => ∃ v3_ : Value, e = .returned (.tuple #[.agg #[.int .i64 r1, .int .i64 r2, .int .i64 r3, v3_], .int .i64 r5]) ∧ Kd.R (Kd.int .i64) 3 w' w.heap.size (fun _ => True) v3_ r4 ∧ Below w.heap.size w w' := by
 have hu26 := Try.underlying26; have hu32 := Try.underlying32; have HR0_3 := am_ hr0_3; have HC0_3 := am_ hc0_3; clear hr0_3 hc0_3; have HB := am_ (Below.refl w.heap.size w); have H : ((integral_check.f k a0_0 a0_1 a0_2 l0_3).bind fun t216 => (if t216 = 0 then (if 0 ≤ a0_1 then (if (a0_1 : Int).toNat ≤ 35184372088832 then (if 0 ≤ a0_0 then (if (a0_0 : Int).toNat ≤ 35184372088832 then ((integral_Tile.f k a0_0 a0_1 a0_2 l0_3 0 0 a0_0 a0_1 (List.replicate (a0_1 : Int).toNat 0) (List.replicate (a0_0 : Int).toNat 0) 0).bind fun bt223 => (some (bt223.1, bt223.2.1, bt223.2.2.1, bt223.2.2.2.1, bt223.2.2.2.2))) else (none)) else (none)) else (none)) else (none)) else (some (0, 0, 0, ([] : List Int), t216)))) = some (r1, r2, r3, r4, r5) := h; clear h; replace H := Option.bind_eq_some_iff.mp H; obtain ⟨t216, A20, H⟩ := H; replace H : (if t216 = 0 then (if 0 ≤ a0_1 then (if (a0_1 : Int).toNat ≤ 35184372088832 then (if 0 ≤ a0_0 then (if (a0_0 : Int).toNat ≤ 35184372088832 then ((integral_Tile.f k a0_0 a0_1 a0_2 l0_3 0 0 a0_0 a0_1 (List.replicate (a0_1 : Int).toNat 0) (List.replicate (a0_0 : Int).toNat 0) 0).bind fun bt223 => (some (bt223.1, bt223.2.1, bt223.2.2.1, bt223.2.2.2.1, bt223.2.2.2.2))) else (none)) else (none)) else (none)) else (none)) else (some (0, 0, 0, ([] : List Int), t216))) = some (r1, r2, r3, r4, r5) := H; have A2 := am_ A20; clear A20
 by_cases c3 : t216 = 0
 ·rw [if_pos c3] at H
  have c3b0 : (t216 == 0) = true := beq_iff_eq.mpr c3; have c3b1 : (t216 != 0) = false := bne_eq_false_iff_eq.mpr c3; clear c3
  by_cases c4 : 0 ≤ a0_1
  ·rw [if_pos c4] at H
   have c4b0 := eq_true c4; have c4b1 : decide (0 ≤ a0_1) = true := decide_eq_true c4; clear c4
   by_cases c5 : (a0_1 : Int).toNat ≤ 35184372088832
   ·rw [if_pos c5] at H
    have c5b0 := eq_true c5; have c5b1 : decide ((a0_1 : Int).toNat ≤ 35184372088832) = true := decide_eq_true c5; clear c5; obtain ⟨y217, hy217⟩ : ∃ y_ : List Int, y_ = (List.replicate (a0_1 : Int).toNat 0) := ⟨_, rfl⟩; replace H : (if 0 ≤ a0_0 then (if (a0_0 : Int).toNat ≤ 35184372088832 then ((integral_Tile.f k a0_0 a0_1 a0_2 l0_3 0 0 a0_0 a0_1 y217 (List.replicate (a0_0 : Int).toNat 0) 0).bind fun bt223 => (some (bt223.1, bt223.2.1, bt223.2.2.1, bt223.2.2.2.1, bt223.2.2.2.2))) else (none)) else (none)) = some (r1, r2, r3, r4, r5) := by first | (rw [hy217]; with_reducible exact H) | (have H2_ := (Option.bind_some _ _).symm.trans H; rw [hy217]; with_reducible exact H2_) | (have H2_ := (Option.bind_some _ _).symm.trans H; with_reducible exact H2_) | with_reducible exact H | (rw [hy217]; exact H) | exact H
    have Ny217 := am_ hy217; clear hy217
    by_cases c6 : 0 ≤ a0_0
    ·rw [if_pos c6] at H
     have c6b0 := eq_true c6; have c6b1 : decide (0 ≤ a0_0) = true := decide_eq_true c6; clear c6
     by_cases c7 : (a0_0 : Int).toNat ≤ 35184372088832
     ·rw [if_pos c7] at H
      have c7b0 := eq_true c7; have c7b1 : decide ((a0_0 : Int).toNat ≤ 35184372088832) = true := decide_eq_true c7; clear c7; obtain ⟨y220, hy220⟩ : ∃ y_ : List Int, y_ = (List.replicate (a0_0 : Int).toNat 0) := ⟨_, rfl⟩; replace H : ((integral_Tile.f k a0_0 a0_1 a0_2 l0_3 0 0 a0_0 a0_1 y217 y220 0).bind fun bt223 => (some (bt223.1, bt223.2.1, bt223.2.2.1, bt223.2.2.2.1, bt223.2.2.2.2))) = some (r1, r2, r3, r4, r5) := by first | (rw [hy220]; with_reducible exact H) | (have H2_ := (Option.bind_some _ _).symm.trans H; rw [hy220]; with_reducible exact H2_) | (have H2_ := (Option.bind_some _ _).symm.trans H; with_reducible exact H2_) | with_reducible exact H | (rw [hy220]; exact H) | exact H
      have Ny220 := am_ hy220; clear hy220; replace H := Option.bind_eq_some_iff.mp H; obtain ⟨⟨t223, t224, t225, t226, t229⟩, A80, H⟩ := H; replace H : (some (t223, t224, t225, t226, t229)) = some (r1, r2, r3, r4, r5) := H; have A8 := am_ A80; clear A80; simp only [Option.some.injEq, Prod.mk.injEq] at H; obtain ⟨rfl, rfl, rfl, rfl, rfl⟩ := H
      go_enter Try.func10, Try.ntmps10
      try go_wp2_with (first | ((with_reducible refine gate_dst (N := 1) rfl ?_); refine box_event ?hg (N := 1) ?hd (cs := #[.int .i64 a0_0, .int .i64 a0_1, .int .i64 a0_2, .slice A0_3 l0_3.length c0_3]) (t := 26) ?hr ?_; (case hd => rfl); (case hg => rfl); (case hr => first | (go_simp; done) | (go_simp; rfl)); intro gb214 hg w9 hbox hb; have n0_ := am_ (below_step q143_ hb); have n1_ := am_ (hbox); have n2_ := am_ ((q108_ : w.heap.size ≤ gb214)); have n3_ := am_ ((q108_ : w.heap.size ≤ gb214)); clear HB; have HB := n0_; have BK214 := n1_; have GW214 := n2_; have GE214 := n3_; clear n0_ n1_ n2_ n3_; clear hb hbox hg) | ((with_reducible refine gate_dst (N := 2) rfl ?_); refine box_event ?hg (N := 2) ?hd (cs := #[.int .i64 0, .int .i64 0, .int .i64 0, .slice none 0 0]) (t := 26) ?hr ?_; (case hd => rfl); (case hg => rfl); (case hr => first | (go_simp; done) | (go_simp; rfl)); intro gb215 hg w10 hbox hb; have n0_ := am_ (blk_below (g := gb214) (o := .cells #[.int .i64 a0_0, .int .i64 a0_1, .int .i64 a0_2, .slice A0_3 l0_3.length c0_3] 26 (0, 0)) q162_ hb); have n1_ := am_ (below_step q118_ hb); have n2_ := am_ (hbox); have n3_ := am_ ((q84_ : w.heap.size ≤ gb215)); have n4_ := am_ ((q84_ : w.heap.size ≤ gb215)); have n5_ := am_ ((by rw [hg]; exact Nat.ne_of_lt (blk_lt (g := gb214) (o := .cells #[.int .i64 a0_0, .int .i64 a0_1, .int .i64 a0_2, .slice A0_3 l0_3.length c0_3] 26 (0, 0)) q162_) : gb214 ≠ gb215)); have n6_ := am_ ((by rw [hg]; exact Nat.ne_of_gt (blk_lt (g := gb214) (o := .cells #[.int .i64 a0_0, .int .i64 a0_1, .int .i64 a0_2, .slice A0_3 l0_3.length c0_3] 26 (0, 0)) q162_) : gb215 ≠ gb214)); clear BK214 HB; have BK214 := n0_; have HB := n1_; have BK215 := n2_; have GW215 := n3_; have GE215 := n4_; have NB214_215 := n5_; have NB215_214 := n6_; clear n0_ n1_ n2_ n3_ n4_ n5_ n6_; clear hb hbox hg; have hnb11 := NB214_215.out; have hnc11 := NB215_214.out; have hcz12_0 := bc0_ BK214.out; have hcz12_1 := bc1_ BK214.out; have hcz12_2 := bc2_ BK214.out; have hcz12_3 := bc3_ BK214.out; have hfz12_0 := blk_frozen BK214.out 0; have hfz12_1 := blk_frozen BK214.out 1; have hfz12_2 := blk_frozen BK214.out 2; have hfz12_3 := blk_frozen BK214.out 3) | ((with_reducible refine gate_callee (f := 29) rfl ?_); refine goesL_ (some 6) rfl rfl Try.func29 (by kernel_rfl) rfl #[.agg #[.int .i64 a0_0, .int .i64 a0_1, .int .i64 a0_2, .slice A0_3 l0_3.length c0_3]] rfl q140_ ?_; (with_reducible refine (integral_check.calls k a0_0 a0_1 a0_2 _ _ l0_3 t216 _ ?side1 ?side2 A2.out).mono ?_); (case side1 => repeat (first | exact (Kd.C_below HR0_3.out HB.out) | (with_reducible refine Kd.C_alloc ?_ _) | (with_reducible refine Kd.C_drewN ?_ _) | (with_reducible refine Kd.C_drew ?_))); (case side2 => exact HC0_3.out); rintro e w13 ⟨rfl, hb⟩; refine ⟨_, rfl, ?_⟩; have n0_ := am_ (blk_below (g := gb214) (o := .cells #[.int .i64 a0_0, .int .i64 a0_1, .int .i64 a0_2, .slice A0_3 l0_3.length c0_3] 26 (0, 0)) q162_ hb); have n1_ := am_ (blk_below (g := gb215) (o := .cells #[.int .i64 0, .int .i64 0, .int .i64 0, .slice none 0 0] 26 (0, 0)) q163_ hb); have n2_ := am_ (below_step q93_ hb); clear BK214 BK215 HB; have BK214 := n0_; have BK215 := n1_; have HB := n2_; clear n0_ n1_ n2_; (try clear hb); (try clear hb2); (try clear hk); (try clear hi)))
      have n0_ := am_ (blk_drew BK214.out); have n1_ := am_ (blk_drew BK215.out); have n2_ := am_ (below_drew1 HB.out); clear BK214 BK215 HB; have BK214 := n0_; have BK215 := n1_; have HB := n2_; clear n0_ n1_ n2_; refine start_ (n := 17) (S := fun w' => w'.cell? ⟨gb214, 0, none⟩ = some (.int .i64 a0_0) ∧ w'.cell? ⟨gb214, 1, none⟩ = some (.int .i64 a0_1) ∧ w'.cell? ⟨gb214, 2, none⟩ = some (.int .i64 a0_2) ∧ w'.cell? ⟨gb214, 3, none⟩ = some (.slice A0_3 l0_3.length c0_3)) (ds := []) #[F_, F_, F_, F_, F_, F_, F_, F_, F_, F_, F_, F_, F_, F_, F_, F_, F_] (by kernel_rfl) rfl rfl ⟨bc0_ BK214.out, bc1_ BK214.out, bc2_ BK214.out, bc3_ BK214.out⟩ (fun hHeld => ?_); refine with_tabW integral_Whole.tab4 integral_Whole.bits4 (fun HT_ HW_ => ?_); generalize w13.drew = w14 at BK214 BK215 HB hHeld ⊢; refine pure_ (i := 1) (N := some 12) (v := ?_) (a' := ?_) #[F_, T_, F_, F_, F_, F_, F_, F_, F_, F_, F_, F_, F_, F_, F_, F_, F_] rfl rfl (any_of HT_.out (by kernel_rfl)) (fun _ _ _ h => h) (Or.inl ⟨by rfl, ?_⟩) ?_ ?_; rotate_left
      ·intro w'
       go_simp
       with_reducible rfl
      rotate_left
      ·simp only [Act.put, la_, lz_, ls_, i64_w, i32_w]
       rfl
      refine pure_ (i := 3) (N := some 14) (v := ?_) (a' := ?_) #[F_, T_, F_, T_, F_, F_, F_, F_, F_, F_, F_, F_, F_, F_, F_, F_, F_] rfl rfl (any_of HT_.out (by kernel_rfl)) (fun _ _ _ h => h) (Or.inl ⟨by rfl, ?_⟩) ?_ ?_; rotate_left
      ·intro w'
       go_simp
       with_reducible rfl
      rotate_left
      ·simp only [Act.put, la_, lz_, ls_, i64_w, i32_w]
       rfl
      refine pure_ (i := 6) (N := some 17) (v := ?_) (a' := ?_) #[F_, T_, F_, T_, F_, F_, T_, F_, F_, F_, F_, F_, F_, F_, F_, F_, F_] rfl rfl (any_of HT_.out (by kernel_rfl)) (fun _ _ _ h => h) (Or.inl ⟨by rfl, ?_⟩) ?_ ?_; rotate_left
      ·intro w'
       go_simp
       with_reducible rfl
      rotate_left
      ·simp only [Act.put, la_, lz_, ls_, i64_w, i32_w]
       rfl
      refine pure_ (i := 9) (N := some 20) (v := ?_) (a' := ?_) #[F_, T_, F_, T_, F_, F_, T_, F_, F_, T_, F_, F_, F_, F_, F_, F_, F_] rfl rfl (any_of HT_.out (by kernel_rfl)) (fun _ _ _ h => h) (Or.inl ⟨by rfl, ?_⟩) ?_ ?_; rotate_left
      ·intro w'
       go_simp
       with_reducible rfl
      rotate_left
      ·simp only [Act.put, la_, lz_, ls_, i64_w, i32_w]
       rfl
      refine take_ (i := 0) (N := some 11) (v := ?_) (a' := ?_) #[T_, T_, F_, T_, F_, F_, T_, F_, F_, T_, F_, F_, F_, F_, F_, F_, F_] rfl rfl (take_ofW HT_.out HW_.out (by kernel_rfl)) (fun _ _ _ h => h) (Or.inl ⟨by rfl, ?_⟩) hHeld ?_ ?_; rotate_left
      ·rintro w' ⟨s0, s1, s2, s3⟩
       go_simp
       with_reducible rfl
      rotate_left
      ·simp only [Act.put, la_, lz_, ls_, i64_w, i32_w]
       rfl
      refine take_ (i := 2) (N := some 13) (v := ?_) (a' := ?_) #[T_, T_, T_, T_, F_, F_, T_, F_, F_, T_, F_, F_, F_, F_, F_, F_, F_] rfl rfl (take_ofW HT_.out HW_.out (by kernel_rfl)) (fun _ _ _ h => h) (Or.inl ⟨by rfl, ?_⟩) hHeld ?_ ?_; rotate_left
      ·rintro w' ⟨s0, s1, s2, s3⟩
       go_simp
       with_reducible rfl
      rotate_left
      ·simp only [Act.put, la_, lz_, ls_, i64_w, i32_w]
       rfl
      refine take_ (i := 4) (N := some 15) (v := ?_) (a' := ?_) #[T_, T_, T_, T_, T_, F_, T_, F_, F_, T_, F_, F_, F_, F_, F_, F_, F_] rfl rfl (take_ofW HT_.out HW_.out (by kernel_rfl)) (fun _ _ _ h => h) (Or.inl ⟨by rfl, ?_⟩) hHeld ?_ ?_; rotate_left
      ·rintro w' ⟨s0, s1, s2, s3⟩
       go_simp
       with_reducible rfl
      rotate_left
      ·simp only [Act.put, la_, lz_, ls_, i64_w, i32_w]
       rfl
      refine pure_ (i := 5) (N := some 16) (v := ?_) (a' := ?_) #[T_, T_, T_, T_, T_, T_, T_, F_, F_, T_, F_, F_, F_, F_, F_, F_, F_] rfl rfl (any_of HT_.out (by kernel_rfl)) (fun _ _ _ h => h) (Or.inl ⟨by rfl, ?_⟩) ?_ ?_; rotate_left
      ·intro w'
       go_simp
       with_reducible rfl
      rotate_left
      ·simp only [Act.put, la_, lz_, ls_, i64_w, i32_w]
       rfl
      refine take_ (i := 7) (N := some 18) (v := ?_) (a' := ?_) #[T_, T_, T_, T_, T_, T_, T_, T_, F_, T_, F_, F_, F_, F_, F_, F_, F_] rfl rfl (take_ofW HT_.out HW_.out (by kernel_rfl)) (fun _ _ _ h => h) (Or.inl ⟨by rfl, ?_⟩) hHeld ?_ ?_; rotate_left
      ·rintro w' ⟨s0, s1, s2, s3⟩
       go_simp
       with_reducible rfl
      rotate_left
      ·simp only [Act.put, la_, lz_, ls_, i64_w, i32_w]
       rfl
      refine take_ (i := 10) (N := some 21) (v := ?_) (a' := ?_) #[T_, T_, T_, T_, T_, T_, T_, T_, F_, T_, T_, F_, F_, F_, F_, F_, F_] rfl rfl (take_ofW HT_.out HW_.out (by kernel_rfl)) (fun _ _ _ h => h) (Or.inl ⟨by rfl, ?_⟩) hHeld ?_ ?_; rotate_left
      ·rintro w' ⟨s0, s1, s2, s3⟩
       go_simp
       with_reducible rfl
      rotate_left
      ·simp only [Act.put, la_, lz_, ls_, i64_w, i32_w]
       rfl
      refine join_ (σ := Value × Value) 5 #[T_, T_, T_, T_, T_, T_, T_, T_, T_, T_, T_, T_, F_, F_, F_, F_, F_] (fun s_ => [(19, s_.1), (22, s_.2)]) (fun s_ w' => (w'.cell? ⟨gb214, 0, none⟩ = some (.int .i64 a0_0) ∧ w'.cell? ⟨gb214, 1, none⟩ = some (.int .i64 a0_1) ∧ w'.cell? ⟨gb214, 2, none⟩ = some (.int .i64 a0_2) ∧ w'.cell? ⟨gb214, 3, none⟩ = some (.slice A0_3 l0_3.length c0_3)) ∧ (Kd.R (Kd.int .i64) 3 w' w.heap.size (fun k_ => some k_ ≠ (s_.2 : Value).ownBlock) s_.1 y217) ∧ (Kd.R (Kd.int .i64) 3 w' w.heap.size (fun k_ => some k_ ≠ (s_.1 : Value).ownBlock) s_.2 y220) ∧ (w'.heap[gb214]? = some (.cells #[.int .i64 a0_0, .int .i64 a0_1, .int .i64 a0_2, .slice A0_3 l0_3.length c0_3] 26 (0, 0))) ∧ (w'.heap[gb215]? = some (.cells #[.int .i64 0, .int .i64 0, .int .i64 0, .slice none 0 0] 26 (0, 0))) ∧ (Below w.heap.size w w')) ?_ ?_; rotate_left
      ·intro hCont
       refine two_ (i := 8) (j := 11) (Ni := some 19) (Nj := some 22) #[T_, T_, T_, T_, T_, T_, T_, T_, T_, T_, T_, F_, F_, F_, F_, F_, F_] #[T_, T_, T_, T_, T_, T_, T_, T_, F_, T_, T_, T_, F_, F_, F_, F_, F_] rfl rfl rfl rfl (two_of HT_.out (by kernel_rfl)) (by decide) (by decide) (fun K hK => ?_) (fun K hK => ?_)
       ·skip
        refine Kd.R_make_step (Kd.int .i64) _ 3 (by rfl) (N := 19) rfl 22 _ _ rfl a0_1 rfl rfl Try.underlying22 (.int .i64 0) 8 info3 rfl (by decide) (by omega) 0 (ok := fun _ => True) (okp := fun _ => True) rfl (fun _ hk => hk) trivial (of_decide_eq_true q216_) (Nat.le_trans (Nat.mul_le_mul_right _ (of_decide_eq_true q216_ : a0_1.toNat ≤ 35184372088832)) (by omega)) (Below.refl _ _) (Nat.le_refl _) ?_; intro v218 w15 ho16 hb hg_ hnew_; clear hg_ hnew_; (first | rw [← Ny217.out] at ho16 | (simp only [Int.reduceToNat] at ho16; rw [← Ny217.out] at ho16)); have n0_ := am_ (Kd.R_lower ho16 (below_size q93_)); have n1_ := am_ (blk_below (g := gb214) (o := .cells #[.int .i64 a0_0, .int .i64 a0_1, .int .i64 a0_2, .slice A0_3 l0_3.length c0_3] 26 (0, 0)) q162_ hb); have n2_ := am_ (blk_below (g := gb215) (o := .cells #[.int .i64 0, .int .i64 0, .int .i64 0, .slice none 0 0] 26 (0, 0)) q163_ hb); have n3_ := am_ (below_step q93_ hb); clear BK214 BK215 HB; have HO219 := n0_; have BK214 := n1_; have BK215 := n2_; have HB := n3_; clear n0_ n1_ n2_ n3_; clear hb ho16; refine hK.out _ _ ⟨bc0_ BK214.out, bc1_ BK214.out, bc2_ BK214.out, bc3_ BK214.out⟩ (fun hHeld => ?_); clear hK K; refine norm_ (a' := ?_) ?_ ?_; rotate_left
        ·show Act.put _ (some 19) _ = _
         simp only [Act.put, la_, lz_, ls_, i64_w, i32_w]; rfl
        refine one_ (i := 11) (N := some 22) #[T_, T_, T_, T_, T_, T_, T_, T_, T_, T_, T_, T_, F_, F_, F_, F_, F_] rfl rfl (one_of HT_.out (by kernel_rfl)) (by decide) (fun K hK => ?_); refine Kd.R_make_step (Kd.int .i64) _ 3 (by rfl) (N := 22) rfl 22 _ _ rfl a0_0 rfl rfl Try.underlying22 (.int .i64 0) 8 info3 rfl (by decide) (by omega) 0 (ok := fun _ => True) (okp := fun _ => True) rfl (fun _ hk => hk) trivial (of_decide_eq_true q216_) (Nat.le_trans (Nat.mul_le_mul_right _ (of_decide_eq_true q216_ : a0_0.toNat ≤ 35184372088832)) (by omega)) (Below.refl _ _) (Nat.le_refl _) ?_; intro v221 w17 ho18 hb hg_ hnew_; clear hg_ hnew_; (first | rw [← Ny220.out] at ho18 | (simp only [Int.reduceToNat] at ho18; rw [← Ny220.out] at ho18)); have n0_ := am_ (Kd.R_elder' q199_ (Kd.R_base ho18) hb); have n1_ := am_ (Kd.R_lower (Kd.R_new' ho18 (Kd.R_lt q199_)) (below_size q93_)); have n2_ := am_ (blk_below (g := gb214) (o := .cells #[.int .i64 a0_0, .int .i64 a0_1, .int .i64 a0_2, .slice A0_3 l0_3.length c0_3] 26 (0, 0)) q162_ hb); have n3_ := am_ (blk_below (g := gb215) (o := .cells #[.int .i64 0, .int .i64 0, .int .i64 0, .slice none 0 0] 26 (0, 0)) q163_ hb); have n4_ := am_ (below_step q93_ hb); clear HO219 BK214 BK215 HB; have HO219 := n0_; have HO222 := n1_; have BK214 := n2_; have BK215 := n3_; have HB := n4_; clear n0_ n1_ n2_ n3_ n4_; clear hb ho18; refine hK.out _ _ ⟨bc0_ BK214.out, bc1_ BK214.out, bc2_ BK214.out, bc3_ BK214.out⟩ (fun hHeld => ?_); clear hK K; refine norm_ (a' := ?_) ?_ ?_; rotate_left
        ·show Act.put _ (some 22) _ = _
         simp only [Act.put, la_, lz_, ls_, i64_w, i32_w]; rfl
        exact norm_ q210_ (hCont (v218, v221) _ ⟨hHeld, (by (with_reducible repeat (first | apply Kd.R_alloc | apply Kd.R_drewN | apply Kd.R_drew)); exact Kd.R_mono HO219.out (fun _ hk => hk.2)), (by (with_reducible repeat (first | apply Kd.R_alloc | apply Kd.R_drewN | apply Kd.R_drew)); exact Kd.R_mono HO222.out (fun _ hk => hk.2)), q162_, q163_, q93_⟩)
       ·skip
        refine Kd.R_make_step (Kd.int .i64) _ 3 (by rfl) (N := 22) rfl 22 _ _ rfl a0_0 rfl rfl Try.underlying22 (.int .i64 0) 8 info3 rfl (by decide) (by omega) 0 (ok := fun _ => True) (okp := fun _ => True) rfl (fun _ hk => hk) trivial (of_decide_eq_true q216_) (Nat.le_trans (Nat.mul_le_mul_right _ (of_decide_eq_true q216_ : a0_0.toNat ≤ 35184372088832)) (by omega)) (Below.refl _ _) (Nat.le_refl _) ?_; intro v221 w15 ho16 hb hg_ hnew_; clear hg_ hnew_; (first | rw [← Ny220.out] at ho16 | (simp only [Int.reduceToNat] at ho16; rw [← Ny220.out] at ho16)); have n0_ := am_ (Kd.R_lower ho16 (below_size q93_)); have n1_ := am_ (blk_below (g := gb214) (o := .cells #[.int .i64 a0_0, .int .i64 a0_1, .int .i64 a0_2, .slice A0_3 l0_3.length c0_3] 26 (0, 0)) q162_ hb); have n2_ := am_ (blk_below (g := gb215) (o := .cells #[.int .i64 0, .int .i64 0, .int .i64 0, .slice none 0 0] 26 (0, 0)) q163_ hb); have n3_ := am_ (below_step q93_ hb); clear BK214 BK215 HB; have HO222 := n0_; have BK214 := n1_; have BK215 := n2_; have HB := n3_; clear n0_ n1_ n2_ n3_; clear hb ho16; refine hK.out _ _ ⟨bc0_ BK214.out, bc1_ BK214.out, bc2_ BK214.out, bc3_ BK214.out⟩ (fun hHeld => ?_); clear hK K; refine norm_ (a' := ?_) ?_ ?_; rotate_left
        ·show Act.put _ (some 22) _ = _
         simp only [Act.put, la_, lz_, ls_, i64_w, i32_w]; rfl
        refine one_ (i := 8) (N := some 19) #[T_, T_, T_, T_, T_, T_, T_, T_, T_, T_, T_, T_, F_, F_, F_, F_, F_] rfl rfl (one_of HT_.out (by kernel_rfl)) (by decide) (fun K hK => ?_); refine Kd.R_make_step (Kd.int .i64) _ 3 (by rfl) (N := 19) rfl 22 _ _ rfl a0_1 rfl rfl Try.underlying22 (.int .i64 0) 8 info3 rfl (by decide) (by omega) 0 (ok := fun _ => True) (okp := fun _ => True) rfl (fun _ hk => hk) trivial (of_decide_eq_true q216_) (Nat.le_trans (Nat.mul_le_mul_right _ (of_decide_eq_true q216_ : a0_1.toNat ≤ 35184372088832)) (by omega)) (Below.refl _ _) (Nat.le_refl _) ?_; intro v218 w17 ho18 hb hg_ hnew_; clear hg_ hnew_; (first | rw [← Ny217.out] at ho18 | (simp only [Int.reduceToNat] at ho18; rw [← Ny217.out] at ho18)); have n0_ := am_ (Kd.R_elder' q200_ (Kd.R_base ho18) hb); have n1_ := am_ (Kd.R_lower (Kd.R_new' ho18 (Kd.R_lt q200_)) (below_size q93_)); have n2_ := am_ (blk_below (g := gb214) (o := .cells #[.int .i64 a0_0, .int .i64 a0_1, .int .i64 a0_2, .slice A0_3 l0_3.length c0_3] 26 (0, 0)) q162_ hb); have n3_ := am_ (blk_below (g := gb215) (o := .cells #[.int .i64 0, .int .i64 0, .int .i64 0, .slice none 0 0] 26 (0, 0)) q163_ hb); have n4_ := am_ (below_step q93_ hb); clear HO222 BK214 BK215 HB; have HO222 := n0_; have HO219 := n1_; have BK214 := n2_; have BK215 := n3_; have HB := n4_; clear n0_ n1_ n2_ n3_ n4_; clear hb ho18; refine hK.out _ _ ⟨bc0_ BK214.out, bc1_ BK214.out, bc2_ BK214.out, bc3_ BK214.out⟩ (fun hHeld => ?_); clear hK K; refine norm_ (a' := ?_) ?_ ?_; rotate_left
        ·show Act.put _ (some 19) _ = _
         simp only [Act.put, la_, lz_, ls_, i64_w, i32_w]; rfl
        exact norm_ q210_ (hCont (v218, v221) _ ⟨hHeld, (by (with_reducible repeat (first | apply Kd.R_alloc | apply Kd.R_drewN | apply Kd.R_drew)); exact Kd.R_mono HO219.out (fun _ hk => hk.2)), (by (with_reducible repeat (first | apply Kd.R_alloc | apply Kd.R_drewN | apply Kd.R_drew)); exact Kd.R_mono HO222.out (fun _ hk => hk.2)), q162_, q163_, q93_⟩)
      rintro ⟨v218, v221⟩ w19 ⟨hS_, h0_, h1_, h2_, h3_, h4_⟩; have n0_ : Aside0 (Kd.R (Kd.int .i64) 3 w19 w.heap.size (fun k_ => some k_ ≠ (v221 : Value).ownBlock) v218 y217) := ⟨h0_⟩; have n1_ : Aside0 (Kd.R (Kd.int .i64) 3 w19 w.heap.size (fun k_ => some k_ ≠ (v218 : Value).ownBlock) v221 y220) := ⟨h1_⟩; have n2_ : Aside0 (w19.heap[gb214]? = some (.cells #[.int .i64 a0_0, .int .i64 a0_1, .int .i64 a0_2, .slice A0_3 l0_3.length c0_3] 26 (0, 0))) := ⟨h2_⟩; have n3_ : Aside0 (w19.heap[gb215]? = some (.cells #[.int .i64 0, .int .i64 0, .int .i64 0, .slice none 0 0] 26 (0, 0))) := ⟨h3_⟩; have n4_ : Aside0 (Below w.heap.size w w19) := ⟨h4_⟩; clear BK214 BK215 HB; clear h0_ h1_ h2_ h3_ h4_; have HO219 := n0_; have HO222 := n1_; have BK214 := n2_; have BK215 := n3_; have HB := n4_; clear n0_ n1_ n2_ n3_ n4_; have hHeld : w19.cell? ⟨gb214, 0, none⟩ = some (.int .i64 a0_0) ∧ w19.cell? ⟨gb214, 1, none⟩ = some (.int .i64 a0_1) ∧ w19.cell? ⟨gb214, 2, none⟩ = some (.int .i64 a0_2) ∧ w19.cell? ⟨gb214, 3, none⟩ = some (.slice A0_3 l0_3.length c0_3) := hS_; obtain ⟨Ao20, co20, eo20⟩ := Kd.R_slice HO219.out; (first | subst eo20 | (injection eo20 with f1_ f2_ f3_; have f4_ := f1_.symm; have f5_ := f3_.symm; clear f1_ f2_ f3_; subst f4_; subst f5_)); obtain ⟨Ao21, co21, eo21⟩ := Kd.R_slice HO222.out; (first | subst eo21 | (injection eo21 with f1_ f2_ f3_; have f4_ := f1_.symm; have f5_ := f3_.symm; clear f1_ f2_ f3_; subst f4_; subst f5_)); refine norm_ (a' := ?_) ?_ ?_; rotate_left
      ·simp only [putAll, Act.put, la_, lz_, ls_]
       rfl
      refine one_ (i := 12) (N := some 23) #[T_, T_, T_, T_, T_, T_, T_, T_, T_, T_, T_, T_, T_, F_, F_, F_, F_] rfl rfl (one_of HT_.out (by kernel_rfl)) (by decide) (fun K hK => ?_); refine goes_ Try.func22 (by kernel_rfl) rfl #[.agg #[.int .i64 a0_0, .int .i64 a0_1, .int .i64 a0_2, .slice A0_3 l0_3.length c0_3], .agg #[.int .i64 0, .int .i64 0, .int .i64 a0_0, .int .i64 a0_1], .slice Ao20 y217.length co20, .slice Ao21 y220.length co21, .int .i64 0] (by rfl) rfl rfl q140_ ?_
      with_reducible refine (integral_Tile.calls k a0_0 a0_1 a0_2 _ _ l0_3 0 0 a0_0 a0_1 _ _ y217 _ _ y220 0 t223 t224 t225 t226 t229 _ ?side1 ?side2 ?side3 ?side4 ?side5 ?side6 A8.out).mono ?_
      (case side1 => repeat (first | exact (Kd.C_below HR0_3.out HB.out) | (with_reducible refine Kd.C_alloc ?_ _) | (with_reducible refine Kd.C_drewN ?_ _) | (with_reducible refine Kd.C_drew ?_))); (case side2 => exact HC0_3.out); (case side3 => repeat (first | exact (Kd.R_reads' HO219.out).2.2 | (with_reducible refine Kd.C_alloc ?_ _) | (with_reducible refine Kd.C_drewN ?_ _) | (with_reducible refine Kd.C_drew ?_))); (case side4 => exact (Kd.R_reads' HO219.out).2.1); (case side5 => repeat (first | exact (Kd.R_reads' HO222.out).2.2 | (with_reducible refine Kd.C_alloc ?_ _) | (with_reducible refine Kd.C_drewN ?_ _) | (with_reducible refine Kd.C_drew ?_))); (case side6 => exact (Kd.R_reads' HO222.out).2.1); rintro e w22 ⟨v227, rfl, ho0, hb⟩; refine ⟨_, rfl, ?_⟩; have n0_ := am_ (Kd.R_elder' q199_ (Kd.R_base ho0) hb); have n1_ := am_ (Kd.R_elder' q200_ (Kd.R_base ho0) hb); have n2_ := am_ (Kd.R_lower (Kd.R_new' (Kd.R_new' ho0 (Kd.R_lt q199_)) (Kd.R_lt q200_)) (below_size q93_)); have n3_ := am_ (blk_below (g := gb214) (o := .cells #[.int .i64 a0_0, .int .i64 a0_1, .int .i64 a0_2, .slice A0_3 l0_3.length c0_3] 26 (0, 0)) q162_ hb); have n4_ := am_ (blk_below (g := gb215) (o := .cells #[.int .i64 0, .int .i64 0, .int .i64 0, .slice none 0 0] 26 (0, 0)) q163_ hb); have n5_ := am_ (below_step q93_ hb); clear HO219 HO222 BK214 BK215 HB; have HO219 := n0_; have HO222 := n1_; have HO228 := n2_; have BK214 := n3_; have BK215 := n4_; have HB := n5_; clear n0_ n1_ n2_ n3_ n4_ n5_; (try clear hb); (try clear hb2); (try clear hk); (try clear hi); (try clear ho0); obtain ⟨Ao26, co26, eo26⟩ := Kd.R_slice HO228.out; (first | subst eo26 | (injection eo26 with f1_ f2_ f3_; have f4_ := f1_.symm; have f5_ := f3_.symm; clear f1_ f2_ f3_; subst f4_; subst f5_)); refine hK.out _ _ ⟨bc0_ BK214.out, bc1_ BK214.out, bc2_ BK214.out, bc3_ BK214.out⟩ (fun hHeld => ?_); clear hK K; refine norm_ (a' := ?_) ?_ ?_; rotate_left
      ·show Act.put _ (some 23) _ = _
       simp only [Act.put, la_, lz_, ls_, i64_w, i32_w]; rfl
      refine pure_ (i := 13) (N := some 24) (v := ?_) (a' := ?_) #[T_, T_, T_, T_, T_, T_, T_, T_, T_, T_, T_, T_, T_, T_, F_, F_, F_] rfl rfl (any_of HT_.out (by kernel_rfl)) (fun _ _ _ h => h) (Or.inl ⟨by rfl, ?_⟩) ?_ ?_; rotate_left
      ·intro w'
       go_simp
       with_reducible rfl
      rotate_left
      ·simp only [Act.put, la_, lz_, ls_, i64_w, i32_w]
       rfl
      refine pure_ (i := 14) (N := some 25) (v := ?_) (a' := ?_) #[T_, T_, T_, T_, T_, T_, T_, T_, T_, T_, T_, T_, T_, T_, T_, F_, F_] rfl rfl (any_of HT_.out (by kernel_rfl)) (fun _ _ _ h => h) (Or.inl ⟨by rfl, ?_⟩) ?_ ?_; rotate_left
      ·intro w'
       go_simp
       with_reducible rfl
      rotate_left
      ·simp only [Act.put, la_, lz_, ls_, i64_w, i32_w]
       rfl
      refine one_ (i := 15) (N := none) #[T_, T_, T_, T_, T_, T_, T_, T_, T_, T_, T_, T_, T_, T_, T_, T_, F_] rfl rfl (one_of HT_.out (by kernel_rfl)) (by decide) (fun K hK => ?_); have hs23 : w22.cell? ⟨gb215, 0, none⟩ = some (.int .i64 0) := bc0_ BK215.out; have hfs23 := blk_frozen BK215.out 0; have hns23_0 := NB214_215.out; have hms23_0 := NB215_214.out; have hs24 : w22.cell? ⟨gb215, 1, none⟩ = some (.int .i64 0) := bc1_ BK215.out; have hfs24 := blk_frozen BK215.out 1; have hns24_0 := NB214_215.out; have hms24_0 := NB215_214.out; have hs25 : w22.cell? ⟨gb215, 2, none⟩ = some (.int .i64 0) := bc2_ BK215.out; have hfs25 := blk_frozen BK215.out 2; have hns25_0 := NB214_215.out; have hms25_0 := NB215_214.out; have hs27 : w22.cell? ⟨gb215, 3, none⟩ = some (.slice none 0 0) := bc3_ BK215.out; have hfs27 := blk_frozen BK215.out 3; have hns27_0 := NB214_215.out; have hms27_0 := NB215_214.out; refine skip_ (w1 := ?_) (by rfl) rfl ?_ ?_; rotate_left
      ·go_simp
       rfl
      refine hK.out _ _ ⟨((cell_far (p := ⟨gb215, _, none⟩) NB214_215.out _).trans (((cell_far (p := ⟨gb215, _, none⟩) NB214_215.out _).trans (((cell_far (p := ⟨gb215, _, none⟩) NB214_215.out _).trans (((cell_far (p := ⟨gb215, _, none⟩) NB214_215.out _).trans (hHeld.1)))))))), ((cell_far (p := ⟨gb215, _, none⟩) NB214_215.out _).trans (((cell_far (p := ⟨gb215, _, none⟩) NB214_215.out _).trans (((cell_far (p := ⟨gb215, _, none⟩) NB214_215.out _).trans (((cell_far (p := ⟨gb215, _, none⟩) NB214_215.out _).trans (hHeld.2.1)))))))), ((cell_far (p := ⟨gb215, _, none⟩) NB214_215.out _).trans (((cell_far (p := ⟨gb215, _, none⟩) NB214_215.out _).trans (((cell_far (p := ⟨gb215, _, none⟩) NB214_215.out _).trans (((cell_far (p := ⟨gb215, _, none⟩) NB214_215.out _).trans (hHeld.2.2.1)))))))), ((cell_far (p := ⟨gb215, _, none⟩) NB214_215.out _).trans (((cell_far (p := ⟨gb215, _, none⟩) NB214_215.out _).trans (((cell_far (p := ⟨gb215, _, none⟩) NB214_215.out _).trans (((cell_far (p := ⟨gb215, _, none⟩) NB214_215.out _).trans (hHeld.2.2.2))))))))⟩ (fun hHeld => ?_); clear hK K; refine pure_ (i := 16) (N := some 3) (v := ?_) (a' := ?_) #[T_, T_, T_, T_, T_, T_, T_, T_, T_, T_, T_, T_, T_, T_, T_, T_, T_] rfl rfl (any_of HT_.out (by kernel_rfl)) (fun _ _ _ h => h) (Or.inl ⟨by rfl, ?_⟩) ?_ ?_; rotate_left
      ·intro w'
       go_simp
       with_reducible rfl
      rotate_left
      ·simp only [Act.put, la_, lz_, ls_, i64_w, i32_w]
       rfl
      refine done_ (done_of HT_.out (by kernel_rfl)) ?_
      try go_wp2
      refine bodyPost_ret (results_ct rfl _ _ gb215 26 #[.int .i64 t223, .int .i64 t224, .int .i64 t225, .slice Ao26 t226.length co26] (0, 0) _ rfl (by (with_reducible repeat (first | refine blk_drewN ?_ _ | refine blk_drew ?_ | refine blk_alloc ?_ _)); refine blk_put (cs := #[.int .i64 t223, .int .i64 t224, .int .i64 t225, .slice none 0 0]) ?_ 3 _ rfl; (with_reducible repeat (first | refine blk_drewN ?_ _ | refine blk_drew ?_ | refine blk_alloc ?_ _)); refine blk_put (cs := #[.int .i64 t223, .int .i64 t224, .int .i64 0, .slice none 0 0]) ?_ 2 _ rfl; (with_reducible repeat (first | refine blk_drewN ?_ _ | refine blk_drew ?_ | refine blk_alloc ?_ _)); refine blk_put (cs := #[.int .i64 t223, .int .i64 0, .int .i64 0, .slice none 0 0]) ?_ 1 _ rfl; (with_reducible repeat (first | refine blk_drewN ?_ _ | refine blk_drew ?_ | refine blk_alloc ?_ _)); refine blk_put (cs := #[.int .i64 0, .int .i64 0, .int .i64 0, .slice none 0 0]) ?_ 0 _ rfl; (with_reducible repeat (first | refine blk_drewN ?_ _ | refine blk_drew ?_ | refine blk_alloc ?_ _)); exact BK215.out) Try.underlying26 rfl (by kernel_rfl)) rfl ?_; exact ⟨_, q211_, by (with_reducible repeat (first | apply Kd.R_alloc | apply Kd.R_drewN | apply Kd.R_drew)); exact Kd.R_mono (Kd.R_far (p := ⟨gb215, 3, none⟩) (Kd.R_far (p := ⟨gb215, 2, none⟩) (Kd.R_far (p := ⟨gb215, 1, none⟩) (Kd.R_far (p := ⟨gb215, 0, none⟩) (Kd.R_types HO228.out BK215.out (by decide)) (fun _ hk => hk.2) (.int .i64 t223)) (fun _ hk => hk.2) (.int .i64 t224)) (fun _ hk => hk.2) (.int .i64 t225)) (fun _ hk => hk.2) (.slice Ao26 t226.length co26)) (fun _ hk => trivial), q93_⟩
     ·rw [if_neg c7] at H
      exact absurd H (by simp)
    ·rw [if_neg c6] at H
     exact absurd H (by simp)
   ·rw [if_neg c5] at H
    exact absurd H (by simp)
  ·rw [if_neg c4] at H
   exact absurd H (by simp)
 ·rw [if_neg c3] at H
  have c3b0 : (t216 == 0) = false := beq_eq_false_iff_ne.mpr c3; have c3b1 : (t216 != 0) = true := bne_iff_ne.mpr c3; simp only [Option.some.injEq, Prod.mk.injEq] at H; obtain ⟨rfl, rfl, rfl, rfl, rfl⟩ := H
  go_enter Try.func10, Try.ntmps10
  go_wp2_with (first | ((with_reducible refine gate_dst (N := 1) rfl ?_); refine box_event ?hg (N := 1) ?hd (cs := #[.int .i64 a0_0, .int .i64 a0_1, .int .i64 a0_2, .slice A0_3 l0_3.length c0_3]) (t := 26) ?hr ?_; (case hd => rfl); (case hg => rfl); (case hr => first | (go_simp; done) | (go_simp; rfl)); intro gb214 hg w28 hbox hb; have n0_ := am_ (below_step q143_ hb); have n1_ := am_ (hbox); have n2_ := am_ ((q108_ : w.heap.size ≤ gb214)); have n3_ := am_ ((q108_ : w.heap.size ≤ gb214)); clear HB; have HB := n0_; have BK214 := n1_; have GW214 := n2_; have GE214 := n3_; clear n0_ n1_ n2_ n3_; clear hb hbox hg) | ((with_reducible refine gate_dst (N := 2) rfl ?_); refine box_event ?hg (N := 2) ?hd (cs := #[.int .i64 0, .int .i64 0, .int .i64 0, .slice none 0 0]) (t := 26) ?hr ?_; (case hd => rfl); (case hg => rfl); (case hr => first | (go_simp; done) | (go_simp; rfl)); intro gb215 hg w29 hbox hb; have n0_ := am_ (blk_below (g := gb214) (o := .cells #[.int .i64 a0_0, .int .i64 a0_1, .int .i64 a0_2, .slice A0_3 l0_3.length c0_3] 26 (0, 0)) q162_ hb); have n1_ := am_ (below_step q118_ hb); have n2_ := am_ (hbox); have n3_ := am_ ((q84_ : w.heap.size ≤ gb215)); have n4_ := am_ ((q84_ : w.heap.size ≤ gb215)); have n5_ := am_ ((by rw [hg]; exact Nat.ne_of_lt (blk_lt (g := gb214) (o := .cells #[.int .i64 a0_0, .int .i64 a0_1, .int .i64 a0_2, .slice A0_3 l0_3.length c0_3] 26 (0, 0)) q162_) : gb214 ≠ gb215)); have n6_ := am_ ((by rw [hg]; exact Nat.ne_of_gt (blk_lt (g := gb214) (o := .cells #[.int .i64 a0_0, .int .i64 a0_1, .int .i64 a0_2, .slice A0_3 l0_3.length c0_3] 26 (0, 0)) q162_) : gb215 ≠ gb214)); clear BK214 HB; have BK214 := n0_; have HB := n1_; have BK215 := n2_; have GW215 := n3_; have GE215 := n4_; have NB214_215 := n5_; have NB215_214 := n6_; clear n0_ n1_ n2_ n3_ n4_ n5_ n6_; clear hb hbox hg; have hnb30 := NB214_215.out; have hnc30 := NB215_214.out; have hcz31_0 := bc0_ BK214.out; have hcz31_1 := bc1_ BK214.out; have hcz31_2 := bc2_ BK214.out; have hcz31_3 := bc3_ BK214.out; have hfz31_0 := blk_frozen BK214.out 0; have hfz31_1 := blk_frozen BK214.out 1; have hfz31_2 := blk_frozen BK214.out 2; have hfz31_3 := blk_frozen BK214.out 3) | ((with_reducible refine gate_callee (f := 29) rfl ?_); refine goesL_ (some 6) rfl rfl Try.func29 (by kernel_rfl) rfl #[.agg #[.int .i64 a0_0, .int .i64 a0_1, .int .i64 a0_2, .slice A0_3 l0_3.length c0_3]] rfl q140_ ?_; (with_reducible refine (integral_check.calls k a0_0 a0_1 a0_2 _ _ l0_3 t216 _ ?side1 ?side2 A2.out).mono ?_); (case side1 => repeat (first | exact (Kd.C_below HR0_3.out HB.out) | (with_reducible refine Kd.C_alloc ?_ _) | (with_reducible refine Kd.C_drewN ?_ _) | (with_reducible refine Kd.C_drew ?_))); (case side2 => exact HC0_3.out); rintro e w32 ⟨rfl, hb⟩; refine ⟨_, rfl, ?_⟩; have n0_ := am_ (blk_below (g := gb214) (o := .cells #[.int .i64 a0_0, .int .i64 a0_1, .int .i64 a0_2, .slice A0_3 l0_3.length c0_3] 26 (0, 0)) q162_ hb); have n1_ := am_ (blk_below (g := gb215) (o := .cells #[.int .i64 0, .int .i64 0, .int .i64 0, .slice none 0 0] 26 (0, 0)) q163_ hb); have n2_ := am_ (below_step q93_ hb); clear BK214 BK215 HB; have BK214 := n0_; have BK215 := n1_; have HB := n2_; clear n0_ n1_ n2_; (try clear hb); (try clear hb2); (try clear hk); (try clear hi); have hcz33_0 := bc0_ BK215.out; have hcz33_1 := bc1_ BK215.out; have hcz33_2 := bc2_ BK215.out; have hcz33_3 := bc3_ BK215.out; have hfz33_0 := blk_frozen BK215.out 0; have hfz33_1 := blk_frozen BK215.out 1; have hfz33_2 := blk_frozen BK215.out 2; have hfz33_3 := blk_frozen BK215.out 3))
  refine bodyPost_ret (results_ct rfl _ _ gb215 26 #[.int .i64 0, .int .i64 0, .int .i64 0, .slice none 0 0] (0, 0) _ rfl (by (with_reducible repeat (first | refine blk_drewN ?_ _ | refine blk_drew ?_ | refine blk_alloc ?_ _)); refine blk_put (cs := #[.int .i64 0, .int .i64 0, .int .i64 0, .slice none 0 0]) ?_ 3 _ rfl; (with_reducible repeat (first | refine blk_drewN ?_ _ | refine blk_drew ?_ | refine blk_alloc ?_ _)); refine blk_put (cs := #[.int .i64 0, .int .i64 0, .int .i64 0, .slice none 0 0]) ?_ 2 _ rfl; (with_reducible repeat (first | refine blk_drewN ?_ _ | refine blk_drew ?_ | refine blk_alloc ?_ _)); refine blk_put (cs := #[.int .i64 0, .int .i64 0, .int .i64 0, .slice none 0 0]) ?_ 1 _ rfl; (with_reducible repeat (first | refine blk_drewN ?_ _ | refine blk_drew ?_ | refine blk_alloc ?_ _)); refine blk_put (cs := #[.int .i64 0, .int .i64 0, .int .i64 0, .slice none 0 0]) ?_ 0 _ rfl; (with_reducible repeat (first | refine blk_drewN ?_ _ | refine blk_drew ?_ | refine blk_alloc ?_ _)); exact BK215.out) Try.underlying26 rfl (by kernel_rfl)) rfl ?_; exact ⟨_, q211_, q139_, q93_⟩


def tilefarmgen_Tape_Within.f (s0_0 : List Int) (s0_1 : Int) (a1 : Int) (a2 : Int) : Option (Int × Int × Int × Int × Int) := (tilefarmgen_Tape_Next.f s0_0 s0_1 a1).bind fun bt231 => ((tilefarmgen_Tape_Next.f s0_0 bt231.2 a2).bind fun bt233 => ((tilefarmgen_Tape_Next.f s0_0 bt233.2 (wrap64 (a1 - bt231.1))).bind fun bt236 => ((tilefarmgen_Tape_Next.f s0_0 bt236.2 (wrap64 (a2 - bt233.1))).bind fun bt238 => (some (bt231.1, bt233.1, wrap64 ((wrap64 (bt231.1 + 1)) + bt236.1), wrap64 ((wrap64 (bt233.1 + 1)) + bt238.1), bt238.2)))))
def tilefarmgen_Tape_Within.T2 : Bool × List (List Nat × List Nat) := (true, [([], []), ([0], [0]), ([1], [1]), ([], []), ([], []), ([], []), ([5], [5]), ([4, 6], [4, 6]), ([3, 7], [3, 7]), ([2, 8], [2, 8]), ([], []), ([10], [10]), ([11], [11]), ([], []), ([], []), ([], []), ([15], [15]), ([14, 16], [14, 16]), ([13, 17, 8], [13, 17]), ([12, 18], [12, 18]), ([0, 1, 2, 3, 4, 5, 6, 7, 8, 9, 10, 11, 15, 16], []), ([20, 9, 18, 0, 1, 2, 3, 4, 5, 6, 7, 8, 9, 10, 11, 15, 16], [9, 20]), ([0, 1, 2, 3, 4, 5, 6, 7, 8, 9, 10, 11, 12, 13, 14, 15, 16, 17, 18, 19, 20, 21], []), ([22, 19, 21, 0, 1, 2, 3, 4, 5, 6, 7, 8, 9, 10, 11, 12, 13, 14, 15, 16, 17, 18, 19, 20, 21], [19, 22])])
def tilefarmgen_Tape_Within.B2 : List Nat := [0, 1, 3, 0, 0, 0, 32, 112, 248, 511, 0, 1024, 3072, 0, 0, 0, 32768, 114688, 254456, 523768, 102399, 1568767, 4194303, 8388607]
theorem tilefarmgen_Tape_Within.tab2 : rtab .any (opsOf Try.f11 2) = tilefarmgen_Tape_Within.T2 := by kernel_rfl
theorem tilefarmgen_Tape_Within.bits2 : waitsOk tilefarmgen_Tape_Within.T2.2 tilefarmgen_Tape_Within.B2 = true := by kernel_rfl
set_option maxHeartbeats 8000000 in
set_option maxRecDepth 100000 in
theorem tilefarmgen_Tape_Within.calls (g : Nat) (s0_0 : List Int) (s0_1 : Int) (a1 : Int) (a2 : Int) (r1 : Int) (r2 : Int) (r3 : Int) (r4 : Int) (r5 : Int) (w0 w : World) (hI : IsS56 w0 w g s0_0 s0_1) (hB : Below w0.heap.size w0 w) (h : tilefarmgen_Tape_Within.f s0_0 s0_1 a1 a2 = some (r1, r2, r3, r4, r5)) :
  Calls Try.prog 11 #[.pointer (some ⟨g, 0, none⟩), .int .i64 a1, .int .i64 a2] w fun e w' => e = .returned (.agg #[.int .i64 r1, .int .i64 r2, .int .i64 r3, .int .i64 r4]) ∧ IsS56 w0 w' g s0_0 r5 ∧ Below w0.heap.size w0 w' ∧ KeepBut w w' g none := by
 have hu32 := Try.underlying32; have HI0 := am_ hI; have HK := am_ (KeepBut.refl w g none); have HL := am_ hB.size; clear hI; have HW0 := am_ hB.size; have HB := am_ hB; clear hB; have H : ((tilefarmgen_Tape_Next.f s0_0 s0_1 a1).bind fun bt231 => ((tilefarmgen_Tape_Next.f s0_0 bt231.2 a2).bind fun bt233 => ((tilefarmgen_Tape_Next.f s0_0 bt233.2 (wrap64 (a1 - bt231.1))).bind fun bt236 => ((tilefarmgen_Tape_Next.f s0_0 bt236.2 (wrap64 (a2 - bt233.1))).bind fun bt238 => (some (bt231.1, bt233.1, wrap64 ((wrap64 (bt231.1 + 1)) + bt236.1), wrap64 ((wrap64 (bt233.1 + 1)) + bt238.1), bt238.2)))))) = some (r1, r2, r3, r4, r5) := h; clear h; replace H := Option.bind_eq_some_iff.mp H; obtain ⟨⟨t231, t232⟩, A40, H⟩ := H; replace H : ((tilefarmgen_Tape_Next.f s0_0 t232 a2).bind fun bt233 => ((tilefarmgen_Tape_Next.f s0_0 bt233.2 (wrap64 (a1 - t231))).bind fun bt236 => ((tilefarmgen_Tape_Next.f s0_0 bt236.2 (wrap64 (a2 - bt233.1))).bind fun bt238 => (some (t231, bt233.1, wrap64 ((wrap64 (t231 + 1)) + bt236.1), wrap64 ((wrap64 (bt233.1 + 1)) + bt238.1), bt238.2))))) = some (r1, r2, r3, r4, r5) := H; have A4 := am_ A40; clear A40; replace H := Option.bind_eq_some_iff.mp H; obtain ⟨⟨t233, t234⟩, A50, H⟩ := H; replace H : ((tilefarmgen_Tape_Next.f s0_0 t234 (wrap64 (a1 - t231))).bind fun bt236 => ((tilefarmgen_Tape_Next.f s0_0 bt236.2 (wrap64 (a2 - t233))).bind fun bt238 => (some (t231, t233, wrap64 ((wrap64 (t231 + 1)) + bt236.1), wrap64 ((wrap64 (t233 + 1)) + bt238.1), bt238.2)))) = some (r1, r2, r3, r4, r5) := H; have A5 := am_ A50; clear A50; replace H := Option.bind_eq_some_iff.mp H; obtain ⟨⟨t236, t237⟩, A60, H⟩ := H; replace H : ((tilefarmgen_Tape_Next.f s0_0 t237 (wrap64 (a2 - t233))).bind fun bt238 => (some (t231, t233, wrap64 ((wrap64 (t231 + 1)) + t236), wrap64 ((wrap64 (t233 + 1)) + bt238.1), bt238.2))) = some (r1, r2, r3, r4, r5) := H; have A6 := am_ A60; clear A60; replace H := Option.bind_eq_some_iff.mp H; obtain ⟨⟨t238, t239⟩, A70, H⟩ := H; replace H : (some (t231, t233, wrap64 ((wrap64 (t231 + 1)) + t236), wrap64 ((wrap64 (t233 + 1)) + t238), t239)) = some (r1, r2, r3, r4, r5) := H; have A7 := am_ A70; clear A70; simp only [Option.some.injEq, Prod.mk.injEq] at H; obtain ⟨rfl, rfl, rfl, rfl, rfl⟩ := H
 go_enter Try.func11, Try.ntmps11
 try go_wp2_with (first | ((with_reducible refine gate_dst (N := 6) rfl ?_); refine box_event ?hg (N := 6) ?hd (cs := #[.int .i64 0, .int .i64 0, .int .i64 0, .int .i64 0]) (t := 32) ?hr ?_; (case hd => rfl); (case hg => rfl); (case hr => first | (go_simp; done) | (go_simp; rfl)); intro gb230 hg w8 hbox hb; have n0_ := am_ (IsS56.below q137_ hb); have n1_ := am_ (KeepBut.trans q138_ (KeepBut.of_below hb g none) (.inl rfl)); have n2_ := am_ (below_step q106_ hb); have n3_ := am_ (hbox); have n4_ := am_ ((q78_ : w.heap.size ≤ gb230)); have n5_ := am_ ((Nat.le_trans HW0.out (q78_ : w.heap.size ≤ gb230) : w0.heap.size ≤ gb230)); have n6_ := am_ ((q70_ : g ≠ gb230)); have n7_ := am_ ((q71_ : gb230 ≠ g)); clear HI0 HK HB; have HI0 := n0_; have HK := n1_; have HB := n2_; have BK230 := n3_; have GW230 := n4_; have GE230 := n5_; have NB0_230 := n6_; have NB230_0 := n7_; clear n0_ n1_ n2_ n3_ n4_ n5_ n6_ n7_; clear hb hbox hg) | ((with_reducible refine gate_callee (f := 12) rfl ?_); refine goesL_ (some 10) rfl rfl Try.func12 (by kernel_rfl) rfl #[.pointer (some ⟨g, 0, none⟩), .int .i64 a1] rfl q140_ ?_; (with_reducible refine (tilefarmgen_Tape_Next.calls g s0_0 s0_1 a1 t231 t232 w0 _ ?side1 ?side2 A4.out).mono ?_); (case side1 => repeat (first | (with_reducible first | exact HI0.out | apply IsS56.alloc | apply IsS56.drewN | apply IsS56.drew | apply IsS56.set_1 | refine IsS56.far ?_ NB0_230.out _) | exact HI0.out)); (case side2 => repeat (first | (with_reducible first | exact HB.out | apply below_alloc | apply pw_below_drewN | apply below_drew1 | refine below_set ?_ (IsS56.ge HI0.out) | refine below_set ?_ GE230.out) | exact HB.out)); rintro e w9 ⟨rfl, hi, hb, hk⟩; refine ⟨_, rfl, ?_⟩; have n0_ := am_ (KeepBut.blk hk (g' := gb230) (o := .cells #[.int .i64 0, .int .i64 0, .int .i64 0, .int .i64 0] 32 (0, 0)) q164_ NB230_0.out (by simp)); have n1_ := am_ (KeepBut.trans q104_ hk (.inl rfl)); have n2_ := am_ (hb); have n3_ := am_ (hi); clear BK230 HK HB HI0; have BK230 := n0_; have HK := n1_; have HB := n2_; have HI0 := n3_; clear n0_ n1_ n2_ n3_; (try clear hb); (try clear hb2); (try clear hk); (try clear hi)) | ((with_reducible refine gate_callee (f := 12) rfl ?_); refine goesL_ (some 13) rfl rfl Try.func12 (by kernel_rfl) rfl #[.pointer (some ⟨g, 0, none⟩), .int .i64 a2] rfl q140_ ?_; (with_reducible refine (tilefarmgen_Tape_Next.calls g s0_0 t232 a2 t233 t234 w0 _ ?side1 ?side2 A5.out).mono ?_); (case side1 => repeat (first | (with_reducible first | exact HI0.out | apply IsS56.alloc | apply IsS56.drewN | apply IsS56.drew | apply IsS56.set_1 | refine IsS56.far ?_ NB0_230.out _) | exact HI0.out)); (case side2 => repeat (first | (with_reducible first | exact HB.out | apply below_alloc | apply pw_below_drewN | apply below_drew1 | refine below_set ?_ (IsS56.ge HI0.out) | refine below_set ?_ GE230.out) | exact HB.out)); rintro e w10 ⟨rfl, hi, hb, hk⟩; refine ⟨_, rfl, ?_⟩; have n0_ := am_ (KeepBut.blk hk (g' := gb230) (o := .cells #[.int .i64 0, .int .i64 0, .int .i64 0, .int .i64 0] 32 (0, 0)) q164_ NB230_0.out (by simp)); have n1_ := am_ (KeepBut.trans q104_ hk (.inl rfl)); have n2_ := am_ (hb); have n3_ := am_ (hi); clear BK230 HK HB HI0; have BK230 := n0_; have HK := n1_; have HB := n2_; have HI0 := n3_; clear n0_ n1_ n2_ n3_; (try clear hb); (try clear hb2); (try clear hk); (try clear hi)) | ((with_reducible refine gate_dst (N := 7) rfl ?_); refine box_event ?hg (N := 7) ?hd (cs := #[.int .i64 0, .int .i64 0, .int .i64 0, .int .i64 0]) (t := 32) ?hr ?_; (case hd => rfl); (case hg => rfl); (case hr => first | (go_simp; done) | (go_simp; rfl)); intro gb235 hg w11 hbox hb; have n0_ := am_ (IsS56.below (by repeat (first | (with_reducible first | exact HI0.out | apply IsS56.alloc | apply IsS56.drewN | apply IsS56.drew | apply IsS56.set_1 | refine IsS56.far ?_ NB0_230.out _) | exact HI0.out)) hb); have n1_ := am_ (blk_below (g := gb230) (o := .cells #[.int .i64 0, .int .i64 0, .int .i64 0, .int .i64 0] 32 (0, 0)) q164_ hb); have n2_ := am_ (KeepBut.trans q104_ (KeepBut.of_below hb g none) (.inl rfl)); have n3_ := am_ (below_step (by repeat (first | (with_reducible first | exact HB.out | apply below_alloc | apply pw_below_drewN | apply below_drew1 | refine below_set ?_ (IsS56.ge HI0.out) | refine below_set ?_ GE230.out) | exact HB.out)) hb); have n4_ := am_ (hbox); have n5_ := am_ ((by rw [hg]; exact (keep_size (w := w) (g := g) (row := none) q104_) : w.heap.size ≤ gb235)); have n6_ := am_ ((Nat.le_trans HW0.out (by rw [hg]; exact (keep_size (w := w) (g := g) (row := none) q104_) : w.heap.size ≤ gb235) : w0.heap.size ≤ gb235)); have n7_ := am_ ((by rw [hg]; exact Nat.ne_of_lt (blk_lt (g := gb230) (o := .cells #[.int .i64 0, .int .i64 0, .int .i64 0, .int .i64 0] 32 (0, 0)) q164_) : gb230 ≠ gb235)); have n8_ := am_ ((by rw [hg]; exact Nat.ne_of_gt (blk_lt (g := gb230) (o := .cells #[.int .i64 0, .int .i64 0, .int .i64 0, .int .i64 0] 32 (0, 0)) q164_) : gb235 ≠ gb230)); have n9_ := am_ ((by rw [hg]; exact Nat.ne_of_lt (IsS56.lt (show IsS56 w0 _ g s0_0 t234 from by repeat (first | (with_reducible first | exact HI0.out | apply IsS56.alloc | apply IsS56.drewN | apply IsS56.drew | apply IsS56.set_1 | refine IsS56.far ?_ NB0_230.out _) | exact HI0.out))) : g ≠ gb235)); have n10_ := am_ ((by rw [hg]; exact Nat.ne_of_gt (IsS56.lt (show IsS56 w0 _ g s0_0 t234 from by repeat (first | (with_reducible first | exact HI0.out | apply IsS56.alloc | apply IsS56.drewN | apply IsS56.drew | apply IsS56.set_1 | refine IsS56.far ?_ NB0_230.out _) | exact HI0.out))) : gb235 ≠ g)); clear HI0 BK230 HK HB; have HI0 := n0_; have BK230 := n1_; have HK := n2_; have HB := n3_; have BK235 := n4_; have GW235 := n5_; have GE235 := n6_; have NB230_235 := n7_; have NB235_230 := n8_; have NB0_235 := n9_; have NB235_0 := n10_; clear n0_ n1_ n2_ n3_ n4_ n5_ n6_ n7_ n8_ n9_ n10_; clear hb hbox hg; have hnb12 := NB235_230.out; have hnc12 := NB230_235.out; have hnb13 := NB235_0.out; have hnc13 := NB0_235.out; have hcz14_0 := bc0_ BK235.out; have hcz14_1 := bc1_ BK235.out; have hcz14_2 := bc2_ BK235.out; have hcz14_3 := bc3_ BK235.out; have hfz14_0 := blk_frozen BK235.out 0; have hfz14_1 := blk_frozen BK235.out 1; have hfz14_2 := blk_frozen BK235.out 2; have hfz14_3 := blk_frozen BK235.out 3))
 have n0_ : Aside0 (((((w11.setCell ⟨gb235, 0, none⟩ (.int .i64 t231)).setCell ⟨gb235, 1, none⟩ (.int .i64 t233)).setCell ⟨gb235, 2, none⟩ (.int .i64 0)).setCell ⟨gb235, 3, none⟩ (.int .i64 0)).heap[gb230]? = some (.cells #[.int .i64 0, .int .i64 0, .int .i64 0, .int .i64 0] 32 (0, 0))) := ⟨by (with_reducible repeat (first | refine blk_drewN ?_ _ | refine blk_drew ?_ | refine blk_alloc ?_ _)); refine blk_far ?_ NB230_235.out _; (with_reducible repeat (first | refine blk_drewN ?_ _ | refine blk_drew ?_ | refine blk_alloc ?_ _)); refine blk_far ?_ NB230_235.out _; (with_reducible repeat (first | refine blk_drewN ?_ _ | refine blk_drew ?_ | refine blk_alloc ?_ _)); refine blk_far ?_ NB230_235.out _; (with_reducible repeat (first | refine blk_drewN ?_ _ | refine blk_drew ?_ | refine blk_alloc ?_ _)); refine blk_far ?_ NB230_235.out _; (with_reducible repeat (first | refine blk_drewN ?_ _ | refine blk_drew ?_ | refine blk_alloc ?_ _)); exact BK230.out⟩; have n1_ : Aside0 (((((w11.setCell ⟨gb235, 0, none⟩ (.int .i64 t231)).setCell ⟨gb235, 1, none⟩ (.int .i64 t233)).setCell ⟨gb235, 2, none⟩ (.int .i64 0)).setCell ⟨gb235, 3, none⟩ (.int .i64 0)).heap[gb235]? = some (.cells #[.int .i64 t231, .int .i64 t233, .int .i64 0, .int .i64 0] 32 (0, 0))) := ⟨by (with_reducible repeat (first | refine blk_drewN ?_ _ | refine blk_drew ?_ | refine blk_alloc ?_ _)); refine blk_put (cs := #[.int .i64 t231, .int .i64 t233, .int .i64 0, .int .i64 0]) ?_ 3 _ rfl; (with_reducible repeat (first | refine blk_drewN ?_ _ | refine blk_drew ?_ | refine blk_alloc ?_ _)); refine blk_put (cs := #[.int .i64 t231, .int .i64 t233, .int .i64 0, .int .i64 0]) ?_ 2 _ rfl; (with_reducible repeat (first | refine blk_drewN ?_ _ | refine blk_drew ?_ | refine blk_alloc ?_ _)); refine blk_put (cs := #[.int .i64 t231, .int .i64 0, .int .i64 0, .int .i64 0]) ?_ 1 _ rfl; (with_reducible repeat (first | refine blk_drewN ?_ _ | refine blk_drew ?_ | refine blk_alloc ?_ _)); refine blk_put (cs := #[.int .i64 0, .int .i64 0, .int .i64 0, .int .i64 0]) ?_ 0 _ rfl; (with_reducible repeat (first | refine blk_drewN ?_ _ | refine blk_drew ?_ | refine blk_alloc ?_ _)); exact BK235.out⟩; have n2_ : Aside0 (IsS56 w0 ((((w11.setCell ⟨gb235, 0, none⟩ (.int .i64 t231)).setCell ⟨gb235, 1, none⟩ (.int .i64 t233)).setCell ⟨gb235, 2, none⟩ (.int .i64 0)).setCell ⟨gb235, 3, none⟩ (.int .i64 0)) g s0_0 t234) := ⟨by repeat (first | (with_reducible first | exact HI0.out | apply IsS56.alloc | apply IsS56.drewN | apply IsS56.drew | apply IsS56.set_1 | refine IsS56.far ?_ NB0_230.out _ | refine IsS56.far ?_ NB0_235.out _) | exact HI0.out)⟩; have n3_ : Aside0 (KeepBut w ((((w11.setCell ⟨gb235, 0, none⟩ (.int .i64 t231)).setCell ⟨gb235, 1, none⟩ (.int .i64 t233)).setCell ⟨gb235, 2, none⟩ (.int .i64 0)).setCell ⟨gb235, 3, none⟩ (.int .i64 0)) g none) := ⟨q76_⟩; have n4_ : Aside0 (Below w0.heap.size w0 ((((w11.setCell ⟨gb235, 0, none⟩ (.int .i64 t231)).setCell ⟨gb235, 1, none⟩ (.int .i64 t233)).setCell ⟨gb235, 2, none⟩ (.int .i64 0)).setCell ⟨gb235, 3, none⟩ (.int .i64 0))) := ⟨by repeat (first | (with_reducible first | exact HB.out | apply below_alloc | apply pw_below_drewN | apply below_drew1 | refine below_set ?_ (IsS56.ge HI0.out) | refine below_set ?_ GE230.out | refine below_set ?_ GE235.out) | exact HB.out)⟩; (try clear BK230); (try clear BK235); (try clear HI0); (try clear HK); (try clear HB); generalize ((((w11.setCell ⟨gb235, 0, none⟩ (.int .i64 t231)).setCell ⟨gb235, 1, none⟩ (.int .i64 t233)).setCell ⟨gb235, 2, none⟩ (.int .i64 0)).setCell ⟨gb235, 3, none⟩ (.int .i64 0)) = w15 at n0_ n1_ n2_ n3_ n4_ ⊢; have BK230 := n0_; have BK235 := n1_; have HI0 := n2_; have HK := n3_; have HB := n4_; clear n0_ n1_ n2_ n3_ n4_; have n0_ := am_ (blk_drew BK230.out); have n1_ := am_ (blk_drew BK235.out); have n2_ := am_ (IsS56.drew HI0.out); have n3_ := am_ (keep_drew HK.out); have n4_ := am_ (below_drew1 HB.out); clear BK230 BK235 HI0 HK HB; have BK230 := n0_; have BK235 := n1_; have HI0 := n2_; have HK := n3_; have HB := n4_; clear n0_ n1_ n2_ n3_ n4_; refine start_ (n := 24) (S := fun w' => w'.cell? ⟨gb235, 0, none⟩ = some (.int .i64 t231) ∧ w'.cell? ⟨gb235, 1, none⟩ = some (.int .i64 t233) ∧ w'.cell? ⟨gb235, 2, none⟩ = some (.int .i64 0) ∧ w'.cell? ⟨gb235, 3, none⟩ = some (.int .i64 0)) (ds := [21, 23]) #[F_, F_, F_, F_, F_, F_, F_, F_, F_, F_, F_, F_, F_, F_, F_, F_, F_, F_, F_, F_, F_, F_, F_, F_] (by kernel_rfl) rfl rfl ⟨bc0_ BK235.out, bc1_ BK235.out, bc2_ BK235.out, bc3_ BK235.out⟩ (fun hHeld => ?_); refine with_tabW tilefarmgen_Tape_Within.tab2 tilefarmgen_Tape_Within.bits2 (fun HT_ HW_ => ?_); generalize w15.drew = w16 at BK230 BK235 HI0 HK HB hHeld ⊢; refine pure_ (i := 0) (N := some 15) (v := ?_) (a' := ?_) #[T_, F_, F_, F_, F_, F_, F_, F_, F_, F_, F_, F_, F_, F_, F_, F_, F_, F_, F_, F_, F_, F_, F_, F_] rfl rfl (any_of HT_.out (by kernel_rfl)) (fun _ _ _ h => h) (Or.inl ⟨by rfl, ?_⟩) ?_ ?_; rotate_left
 ·intro w'
  go_simp
  with_reducible rfl
 rotate_left
 ·simp only [Act.put, la_, lz_, ls_, i64_w, i32_w]
  rfl
 refine pure_ (i := 3) (N := some 18) (v := ?_) (a' := ?_) #[T_, F_, F_, T_, F_, F_, F_, F_, F_, F_, F_, F_, F_, F_, F_, F_, F_, F_, F_, F_, F_, F_, F_, F_] rfl rfl (any_of HT_.out (by kernel_rfl)) (fun _ _ _ h => h) (Or.inl ⟨by rfl, ?_⟩) ?_ ?_; rotate_left
 ·intro w'
  go_simp
  with_reducible rfl
 rotate_left
 ·simp only [Act.put, la_, lz_, ls_, i64_w, i32_w]
  rfl
 refine pure_ (i := 4) (N := some 19) (v := ?_) (a' := ?_) #[T_, F_, F_, T_, T_, F_, F_, F_, F_, F_, F_, F_, F_, F_, F_, F_, F_, F_, F_, F_, F_, F_, F_, F_] rfl rfl (any_of HT_.out (by kernel_rfl)) (fun _ _ _ h => h) (Or.inl ⟨by rfl, ?_⟩) ?_ ?_; rotate_left
 ·intro w'
  go_simp
  with_reducible rfl
 rotate_left
 ·simp only [Act.put, la_, lz_, ls_, i64_w, i32_w]
  rfl
 refine pure_ (i := 5) (N := some 20) (v := ?_) (a' := ?_) #[T_, F_, F_, T_, T_, T_, F_, F_, F_, F_, F_, F_, F_, F_, F_, F_, F_, F_, F_, F_, F_, F_, F_, F_] rfl rfl (any_of HT_.out (by kernel_rfl)) (fun _ _ _ h => h) (Or.inl ⟨by rfl, ?_⟩) ?_ ?_; rotate_left
 ·intro w'
  go_simp
  with_reducible rfl
 rotate_left
 ·simp only [Act.put, la_, lz_, ls_, i64_w, i32_w]
  rfl
 refine pure_ (i := 10) (N := some 25) (v := ?_) (a' := ?_) #[T_, F_, F_, T_, T_, T_, F_, F_, F_, F_, T_, F_, F_, F_, F_, F_, F_, F_, F_, F_, F_, F_, F_, F_] rfl rfl (any_of HT_.out (by kernel_rfl)) (fun _ _ _ h => h) (Or.inl ⟨by rfl, ?_⟩) ?_ ?_; rotate_left
 ·intro w'
  go_simp
  with_reducible rfl
 rotate_left
 ·simp only [Act.put, la_, lz_, ls_, i64_w, i32_w]
  rfl
 refine pure_ (i := 13) (N := some 28) (v := ?_) (a' := ?_) #[T_, F_, F_, T_, T_, T_, F_, F_, F_, F_, T_, F_, F_, T_, F_, F_, F_, F_, F_, F_, F_, F_, F_, F_] rfl rfl (any_of HT_.out (by kernel_rfl)) (fun _ _ _ h => h) (Or.inl ⟨by rfl, ?_⟩) ?_ ?_; rotate_left
 ·intro w'
  go_simp
  with_reducible rfl
 rotate_left
 ·simp only [Act.put, la_, lz_, ls_, i64_w, i32_w]
  rfl
 refine pure_ (i := 14) (N := some 29) (v := ?_) (a' := ?_) #[T_, F_, F_, T_, T_, T_, F_, F_, F_, F_, T_, F_, F_, T_, T_, F_, F_, F_, F_, F_, F_, F_, F_, F_] rfl rfl (any_of HT_.out (by kernel_rfl)) (fun _ _ _ h => h) (Or.inl ⟨by rfl, ?_⟩) ?_ ?_; rotate_left
 ·intro w'
  go_simp
  with_reducible rfl
 rotate_left
 ·simp only [Act.put, la_, lz_, ls_, i64_w, i32_w]
  rfl
 refine pure_ (i := 15) (N := some 30) (v := ?_) (a' := ?_) #[T_, F_, F_, T_, T_, T_, F_, F_, F_, F_, T_, F_, F_, T_, T_, T_, F_, F_, F_, F_, F_, F_, F_, F_] rfl rfl (any_of HT_.out (by kernel_rfl)) (fun _ _ _ h => h) (Or.inl ⟨by rfl, ?_⟩) ?_ ?_; rotate_left
 ·intro w'
  go_simp
  with_reducible rfl
 rotate_left
 ·simp only [Act.put, la_, lz_, ls_, i64_w, i32_w]
  rfl
 refine take_ (i := 1) (N := some 16) (v := ?_) (a' := ?_) #[T_, T_, F_, T_, T_, T_, F_, F_, F_, F_, T_, F_, F_, T_, T_, T_, F_, F_, F_, F_, F_, F_, F_, F_] rfl rfl (take_ofW HT_.out HW_.out (by kernel_rfl)) (fun _ _ _ h => h) (Or.inl ⟨by rfl, ?_⟩) hHeld ?_ ?_; rotate_left
 ·rintro w' ⟨s0, s1, s2, s3⟩
  go_simp
  with_reducible rfl
 rotate_left
 ·simp only [Act.put, la_, lz_, ls_, i64_w, i32_w]
  rfl
 refine pure_ (i := 2) (N := some 17) (v := ?_) (a' := ?_) #[T_, T_, T_, T_, T_, T_, F_, F_, F_, F_, T_, F_, F_, T_, T_, T_, F_, F_, F_, F_, F_, F_, F_, F_] rfl rfl (any_of HT_.out (by kernel_rfl)) (fun _ _ _ h => h) (Or.inl ⟨by rfl, ?_⟩) ?_ ?_; rotate_left
 ·intro w'
  go_simp
  with_reducible rfl
 rotate_left
 ·simp only [Act.put, la_, lz_, ls_, i64_w, i32_w]
  rfl
 refine take_ (i := 6) (N := some 21) (v := ?_) (a' := ?_) #[T_, T_, T_, T_, T_, T_, T_, F_, F_, F_, T_, F_, F_, T_, T_, T_, F_, F_, F_, F_, F_, F_, F_, F_] rfl rfl (take_ofW HT_.out HW_.out (by kernel_rfl)) (fun _ _ _ h => h) (Or.inl ⟨by rfl, ?_⟩) hHeld ?_ ?_; rotate_left
 ·rintro w' ⟨s0, s1, s2, s3⟩
  go_simp
  with_reducible rfl
 rotate_left
 ·simp only [Act.put, la_, lz_, ls_, i64_w, i32_w]
  rfl
 refine pure_ (i := 7) (N := some 22) (v := ?_) (a' := ?_) #[T_, T_, T_, T_, T_, T_, T_, T_, F_, F_, T_, F_, F_, T_, T_, T_, F_, F_, F_, F_, F_, F_, F_, F_] rfl rfl (any_of HT_.out (by kernel_rfl)) (fun _ _ _ h => h) (Or.inl ⟨by rfl, ?_⟩) ?_ ?_; rotate_left
 ·intro w'
  go_simp
  with_reducible rfl
 rotate_left
 ·simp only [Act.put, la_, lz_, ls_, i64_w, i32_w]
  rfl
 refine take_ (i := 11) (N := some 26) (v := ?_) (a' := ?_) #[T_, T_, T_, T_, T_, T_, T_, T_, F_, F_, T_, T_, F_, T_, T_, T_, F_, F_, F_, F_, F_, F_, F_, F_] rfl rfl (take_ofW HT_.out HW_.out (by kernel_rfl)) (fun _ _ _ h => h) (Or.inl ⟨by rfl, ?_⟩) hHeld ?_ ?_; rotate_left
 ·rintro w' ⟨s0, s1, s2, s3⟩
  go_simp
  with_reducible rfl
 rotate_left
 ·simp only [Act.put, la_, lz_, ls_, i64_w, i32_w]
  rfl
 refine pure_ (i := 12) (N := some 27) (v := ?_) (a' := ?_) #[T_, T_, T_, T_, T_, T_, T_, T_, F_, F_, T_, T_, T_, T_, T_, T_, F_, F_, F_, F_, F_, F_, F_, F_] rfl rfl (any_of HT_.out (by kernel_rfl)) (fun _ _ _ h => h) (Or.inl ⟨by rfl, ?_⟩) ?_ ?_; rotate_left
 ·intro w'
  go_simp
  with_reducible rfl
 rotate_left
 ·simp only [Act.put, la_, lz_, ls_, i64_w, i32_w]
  rfl
 refine take_ (i := 16) (N := some 31) (v := ?_) (a' := ?_) #[T_, T_, T_, T_, T_, T_, T_, T_, F_, F_, T_, T_, T_, T_, T_, T_, T_, F_, F_, F_, F_, F_, F_, F_] rfl rfl (take_ofW HT_.out HW_.out (by kernel_rfl)) (fun _ _ _ h => h) (Or.inl ⟨by rfl, ?_⟩) hHeld ?_ ?_; rotate_left
 ·rintro w' ⟨s0, s1, s2, s3⟩
  go_simp
  with_reducible rfl
 rotate_left
 ·simp only [Act.put, la_, lz_, ls_, i64_w, i32_w]
  rfl
 refine pure_ (i := 17) (N := some 32) (v := ?_) (a' := ?_) #[T_, T_, T_, T_, T_, T_, T_, T_, F_, F_, T_, T_, T_, T_, T_, T_, T_, T_, F_, F_, F_, F_, F_, F_] rfl rfl (any_of HT_.out (by kernel_rfl)) (fun _ _ _ h => h) (Or.inl ⟨by rfl, ?_⟩) ?_ ?_; rotate_left
 ·intro w'
  go_simp
  with_reducible rfl
 rotate_left
 ·simp only [Act.put, la_, lz_, ls_, i64_w, i32_w]
  rfl
 refine one_ (i := 8) (N := some 23) #[T_, T_, T_, T_, T_, T_, T_, T_, T_, F_, T_, T_, T_, T_, T_, T_, T_, T_, F_, F_, F_, F_, F_, F_] rfl rfl (one_of HT_.out (by kernel_rfl)) (by decide) (fun K hK => ?_); refine goes_ Try.func12 (by kernel_rfl) rfl #[.pointer (some ⟨g, 0, none⟩), .int .i64 (wrap64 (a1 - t231))] (by rfl) rfl rfl q140_ ?_
 with_reducible refine (tilefarmgen_Tape_Next.calls g s0_0 t234 (wrap64 (a1 - t231)) t236 t237 w0 _ ?side1 ?side2 A6.out).mono ?_
 (case side1 => repeat (first | (with_reducible first | exact HI0.out | apply IsS56.alloc | apply IsS56.drewN | apply IsS56.drew | apply IsS56.set_1 | refine IsS56.far ?_ NB0_230.out _ | refine IsS56.far ?_ NB0_235.out _) | exact HI0.out)); (case side2 => repeat (first | (with_reducible first | exact HB.out | apply below_alloc | apply pw_below_drewN | apply below_drew1 | refine below_set ?_ (IsS56.ge HI0.out) | refine below_set ?_ GE230.out | refine below_set ?_ GE235.out) | exact HB.out)); rintro e w17 ⟨rfl, hi, hb, hk⟩; refine ⟨_, rfl, ?_⟩; have n0_ := am_ (KeepBut.blk hk (g' := gb230) (o := .cells #[.int .i64 0, .int .i64 0, .int .i64 0, .int .i64 0] 32 (0, 0)) q164_ NB230_0.out (by simp)); have n1_ := am_ (KeepBut.blk hk (g' := gb235) (o := .cells #[.int .i64 t231, .int .i64 t233, .int .i64 0, .int .i64 0] 32 (0, 0)) (by (with_reducible repeat (first | refine blk_drewN ?_ _ | refine blk_drew ?_ | refine blk_alloc ?_ _)); exact BK235.out) NB235_0.out (by simp)); have n2_ := am_ (KeepBut.trans q76_ hk (.inl rfl)); have n3_ := am_ (hb); have n4_ := am_ (hi); clear BK230 BK235 HK HB HI0; have BK230 := n0_; have BK235 := n1_; have HK := n2_; have HB := n3_; have HI0 := n4_; clear n0_ n1_ n2_ n3_ n4_; (try clear hb); (try clear hb2); (try clear hk); (try clear hi); refine hK.out _ _ ⟨bc0_ BK235.out, bc1_ BK235.out, bc2_ BK235.out, bc3_ BK235.out⟩ (fun hHeld => ?_); clear hK K; refine norm_ (a' := ?_) ?_ ?_; rotate_left
 ·show Act.put _ (some 23) _ = _
  simp only [Act.put, la_, lz_, ls_, i64_w, i32_w]; rfl
 refine pure_ (i := 9) (N := some 24) (v := ?_) (a' := ?_) #[T_, T_, T_, T_, T_, T_, T_, T_, T_, T_, T_, T_, T_, T_, T_, T_, T_, T_, F_, F_, F_, F_, F_, F_] rfl rfl (any_of HT_.out (by kernel_rfl)) (fun _ _ _ h => h) (Or.inl ⟨by rfl, ?_⟩) ?_ ?_; rotate_left
 ·intro w'
  go_simp
  with_reducible rfl
 rotate_left
 ·simp only [Act.put, la_, lz_, ls_, i64_w, i32_w]
  rfl
 refine pure_ (i := 20) (N := some 35) (v := ?_) (a' := ?_) #[T_, T_, T_, T_, T_, T_, T_, T_, T_, T_, T_, T_, T_, T_, T_, T_, T_, T_, F_, F_, T_, F_, F_, F_] rfl rfl (any_of HT_.out (by kernel_rfl)) (fun _ _ _ h => h) (Or.inl ⟨by rfl, ?_⟩) ?_ ?_; rotate_left
 ·intro w'
  go_simp
  with_reducible rfl
 rotate_left
 ·simp only [Act.put, la_, lz_, ls_, i64_w, i32_w]
  rfl
 refine one_ (i := 18) (N := some 33) #[T_, T_, T_, T_, T_, T_, T_, T_, T_, T_, T_, T_, T_, T_, T_, T_, T_, T_, T_, F_, T_, F_, F_, F_] rfl rfl (one_of HT_.out (by kernel_rfl)) (by decide) (fun K hK => ?_); refine goes_ Try.func12 (by kernel_rfl) rfl #[.pointer (some ⟨g, 0, none⟩), .int .i64 (wrap64 (a2 - t233))] (by rfl) rfl rfl q140_ ?_
 with_reducible refine (tilefarmgen_Tape_Next.calls g s0_0 t237 (wrap64 (a2 - t233)) t238 t239 w0 _ ?side1 ?side2 A7.out).mono ?_
 (case side1 => repeat (first | (with_reducible first | exact HI0.out | apply IsS56.alloc | apply IsS56.drewN | apply IsS56.drew | apply IsS56.set_1 | refine IsS56.far ?_ NB0_230.out _ | refine IsS56.far ?_ NB0_235.out _) | exact HI0.out)); (case side2 => repeat (first | (with_reducible first | exact HB.out | apply below_alloc | apply pw_below_drewN | apply below_drew1 | refine below_set ?_ (IsS56.ge HI0.out) | refine below_set ?_ GE230.out | refine below_set ?_ GE235.out) | exact HB.out)); rintro e w18 ⟨rfl, hi, hb, hk⟩; refine ⟨_, rfl, ?_⟩; have n0_ := am_ (KeepBut.blk hk (g' := gb230) (o := .cells #[.int .i64 0, .int .i64 0, .int .i64 0, .int .i64 0] 32 (0, 0)) q164_ NB230_0.out (by simp)); have n1_ := am_ (KeepBut.blk hk (g' := gb235) (o := .cells #[.int .i64 t231, .int .i64 t233, .int .i64 0, .int .i64 0] 32 (0, 0)) (by (with_reducible repeat (first | refine blk_drewN ?_ _ | refine blk_drew ?_ | refine blk_alloc ?_ _)); exact BK235.out) NB235_0.out (by simp)); have n2_ := am_ (KeepBut.trans q76_ hk (.inl rfl)); have n3_ := am_ (hb); have n4_ := am_ (hi); clear BK230 BK235 HK HB HI0; have BK230 := n0_; have BK235 := n1_; have HK := n2_; have HB := n3_; have HI0 := n4_; clear n0_ n1_ n2_ n3_ n4_; (try clear hb); (try clear hb2); (try clear hk); (try clear hi); refine hK.out _ _ ⟨bc0_ BK235.out, bc1_ BK235.out, bc2_ BK235.out, bc3_ BK235.out⟩ (fun hHeld => ?_); clear hK K; refine norm_ (a' := ?_) ?_ ?_; rotate_left
 ·show Act.put _ (some 33) _ = _
  simp only [Act.put, la_, lz_, ls_, i64_w, i32_w]; rfl
 refine pure_ (i := 19) (N := some 34) (v := ?_) (a' := ?_) #[T_, T_, T_, T_, T_, T_, T_, T_, T_, T_, T_, T_, T_, T_, T_, T_, T_, T_, T_, T_, T_, F_, F_, F_] rfl rfl (any_of HT_.out (by kernel_rfl)) (fun _ _ _ h => h) (Or.inl ⟨by rfl, ?_⟩) ?_ ?_; rotate_left
 ·intro w'
  go_simp
  with_reducible rfl
 rotate_left
 ·simp only [Act.put, la_, lz_, ls_, i64_w, i32_w]
  rfl
 refine last_ (i := 21) (N := none) #[T_, T_, T_, T_, T_, T_, T_, T_, T_, T_, T_, T_, T_, T_, T_, T_, T_, T_, T_, T_, T_, T_, F_, F_] rfl rfl (one_of HT_.out (by kernel_rfl)) (by decide) (fun K hK => ?_); have hs19 : w18.cell? ⟨gb235, 2, none⟩ = some (.int .i64 0) := bc2_ BK235.out; have hfs19 := blk_frozen BK235.out 2; have hns19_0 := NB230_235.out; have hms19_0 := NB235_230.out; refine skip_ (w1 := ?_) (by rfl) rfl ?_ ?_; rotate_left
 ·go_simp
  rfl
 refine hK.out _ _ ?_; clear hK K; refine pure_ (i := 22) (N := some 36) (v := ?_) (a' := ?_) #[T_, T_, T_, T_, T_, T_, T_, T_, T_, T_, T_, T_, T_, T_, T_, T_, T_, T_, T_, T_, T_, T_, T_, F_] rfl rfl (any_of HT_.out (by kernel_rfl)) (fun _ _ _ h => h) (Or.inl ⟨by rfl, ?_⟩) ?_ ?_; rotate_left
 ·intro w'
  go_simp
  with_reducible rfl
 rotate_left
 ·simp only [Act.put, la_, lz_, ls_, i64_w, i32_w]
  rfl
 refine last_ (i := 23) (N := none) #[T_, T_, T_, T_, T_, T_, T_, T_, T_, T_, T_, T_, T_, T_, T_, T_, T_, T_, T_, T_, T_, T_, T_, T_] rfl rfl (one_of HT_.out (by kernel_rfl)) (by decide) (fun K hK => ?_); have hs20 : w18.cell? ⟨gb235, 3, none⟩ = some (.int .i64 0) := bc3_ BK235.out; have hfs20 := blk_frozen BK235.out 3; have hns20_0 := NB230_235.out; have hms20_0 := NB235_230.out; refine skip_ (w1 := ?_) (by rfl) rfl ?_ ?_; rotate_left
 ·go_simp
  rfl
 refine hK.out _ _ ?_; clear hK K; refine done_ (done_of HT_.out (by kernel_rfl)) ?_; have hcz21_0 := bc0_ BK235.out; have hcz21_1 := bc1_ BK235.out; have hcz21_2 := bc2_ BK235.out; have hcz21_3 := bc3_ BK235.out; have hfz21_0 := blk_frozen BK235.out 0; have hfz21_1 := blk_frozen BK235.out 1; have hfz21_2 := blk_frozen BK235.out 2; have hfz21_3 := blk_frozen BK235.out 3; have hnb22 := NB230_0.out; have hnc22 := NB0_230.out; have hcz23_0 := bc0_ BK230.out; have hcz23_1 := bc1_ BK230.out; have hcz23_2 := bc2_ BK230.out; have hcz23_3 := bc3_ BK230.out; have hfz23_0 := blk_frozen BK230.out 0; have hfz23_1 := blk_frozen BK230.out 1; have hfz23_2 := blk_frozen BK230.out 2; have hfz23_3 := blk_frozen BK230.out 3
 try go_wp2
 refine bodyPost_ret (results_cell_row rfl _ _ gb230 32 #[.int .i64 t231, .int .i64 t233, .int .i64 (wrap64 ((wrap64 (t231 + 1)) + t236)), .int .i64 (wrap64 ((wrap64 (t233 + 1)) + t238))] (0, 0) _ rfl (by (with_reducible repeat (first | refine blk_drewN ?_ _ | refine blk_drew ?_ | refine blk_alloc ?_ _)); refine blk_put (cs := #[.int .i64 t231, .int .i64 t233, .int .i64 (wrap64 ((wrap64 (t231 + 1)) + t236)), .int .i64 0]) ?_ 3 _ rfl; (with_reducible repeat (first | refine blk_drewN ?_ _ | refine blk_drew ?_ | refine blk_alloc ?_ _)); refine blk_put (cs := #[.int .i64 t231, .int .i64 t233, .int .i64 0, .int .i64 0]) ?_ 2 _ rfl; (with_reducible repeat (first | refine blk_drewN ?_ _ | refine blk_drew ?_ | refine blk_alloc ?_ _)); refine blk_put (cs := #[.int .i64 t231, .int .i64 0, .int .i64 0, .int .i64 0]) ?_ 1 _ rfl; (with_reducible repeat (first | refine blk_drewN ?_ _ | refine blk_drew ?_ | refine blk_alloc ?_ _)); refine blk_put (cs := #[.int .i64 0, .int .i64 0, .int .i64 0, .int .i64 0]) ?_ 0 _ rfl; (with_reducible repeat (first | refine blk_drewN ?_ _ | refine blk_drew ?_ | refine blk_alloc ?_ _)); refine blk_far ?_ NB230_235.out _; (with_reducible repeat (first | refine blk_drewN ?_ _ | refine blk_drew ?_ | refine blk_alloc ?_ _)); refine blk_far ?_ NB230_235.out _; (with_reducible repeat (first | refine blk_drewN ?_ _ | refine blk_drew ?_ | refine blk_alloc ?_ _)); exact BK230.out) Try.underlying32 rfl (by kernel_rfl)) rfl ?_; exact ⟨q211_, by repeat (first | (with_reducible first | exact HI0.out | apply IsS56.alloc | apply IsS56.drewN | apply IsS56.drew | apply IsS56.set_1 | refine IsS56.far ?_ NB0_230.out _ | refine IsS56.far ?_ NB0_235.out _) | exact HI0.out), by repeat (first | (with_reducible first | exact HB.out | apply below_alloc | apply pw_below_drewN | apply below_drew1 | refine below_set ?_ (IsS56.ge HI0.out) | refine below_set ?_ GE230.out | refine below_set ?_ GE235.out) | exact HB.out), q76_⟩


def integral_Sum_1.f (a0 : Int) (a1 : Int) (a2_0 : Int) (a2_1 : Int) (a2_2 : Int) (l2_3 : List Int) : Option (Int) := if a0 = 0 then (some 0) else (if a1 = 0 then (some 0) else (if 0 ≤ (wrap64 ((wrap64 ((wrap64 ((wrap64 (a1 - 1)) * a2_0)) + a0)) - 1)) then (if (wrap64 ((wrap64 ((wrap64 ((wrap64 (a1 - 1)) * a2_0)) + a0)) - 1)) < (l2_3.length : Int) then (some (rd l2_3 (wrap64 ((wrap64 ((wrap64 ((wrap64 (a1 - 1)) * a2_0)) + a0)) - 1)))) else (none)) else (none)))
set_option maxHeartbeats 8000000 in
set_option maxRecDepth 100000 in
theorem integral_Sum_1.calls (a0 : Int) (a1 : Int) (B2 : Nat) (a2_0 : Int) (a2_1 : Int) (a2_2 : Int) (A2_3 : Option Addr) (c2_3 : Nat) (l2_3 : List Int) (r : Int) (w : World) (hr2_3 : Kd.C (Kd.int .i64) w A2_3 l2_3.length l2_3) (hc2_3 : l2_3.length ≤ c2_3) (hb2 : w.heap[B2]? = some (.cells #[.int .i64 a2_0, .int .i64 a2_1, .int .i64 a2_2, .slice A2_3 l2_3.length c2_3] 26 (0, 0))) (h : integral_Sum_1.f a0 a1 a2_0 a2_1 a2_2 l2_3 = some r) :
  Calls Try.prog 34 #[.int .i64 a0, .int .i64 a1, .pointer (some ⟨B2, 0, none⟩)] w fun e w' => e = .returned (.int .i64 r) ∧ Below w.heap.size w w' := by
 have HR2_3 := am_ hr2_3; have HC2_3 := am_ hc2_3; clear hr2_3 hc2_3; have BK2 := am_ hb2; clear hb2; have HB := am_ (Below.refl w.heap.size w); have H : (if a0 = 0 then (some 0) else (if a1 = 0 then (some 0) else (if 0 ≤ (wrap64 ((wrap64 ((wrap64 ((wrap64 (a1 - 1)) * a2_0)) + a0)) - 1)) then (if (wrap64 ((wrap64 ((wrap64 ((wrap64 (a1 - 1)) * a2_0)) + a0)) - 1)) < (l2_3.length : Int) then (some (rd l2_3 (wrap64 ((wrap64 ((wrap64 ((wrap64 (a1 - 1)) * a2_0)) + a0)) - 1)))) else (none)) else (none)))) = some r := h; clear h
 by_cases c4 : a0 = 0
 ·rw [if_pos c4] at H
  have c4b0 : (a0 == 0) = true := beq_iff_eq.mpr c4; have c4b1 : (a0 != 0) = false := bne_eq_false_iff_eq.mpr c4; clear c4; obtain rfl := Option.some.inj H
  go_enter Try.func34, Try.ntmps34
  go_wp2
  go_ret
  exact ⟨q211_, q136_⟩
 ·rw [if_neg c4] at H
  have c4b0 : (a0 == 0) = false := beq_eq_false_iff_ne.mpr c4; have c4b1 : (a0 != 0) = true := bne_iff_ne.mpr c4
  by_cases c5 : a1 = 0
  ·rw [if_pos c5] at H
   have c5b0 : (a1 == 0) = true := beq_iff_eq.mpr c5; have c5b1 : (a1 != 0) = false := bne_eq_false_iff_eq.mpr c5; clear c5; obtain rfl := Option.some.inj H
   go_enter Try.func34, Try.ntmps34
   go_wp2
   go_ret
   exact ⟨q211_, q136_⟩
  ·rw [if_neg c5] at H
   have c5b0 : (a1 == 0) = false := beq_eq_false_iff_ne.mpr c5; have c5b1 : (a1 != 0) = true := bne_iff_ne.mpr c5; obtain ⟨ji6, hji6⟩ : ∃ j_ : Int, (wrap64 ((wrap64 ((wrap64 ((wrap64 (a1 - 1)) * a2_0)) + a0)) - 1)) = j_ := ⟨_, rfl⟩; replace H : (if 0 ≤ (ji6) then (if (ji6) < (l2_3.length : Int) then (some (rd l2_3 (ji6))) else (none)) else (none)) = some r := by first | (rw [hji6] at H; exact H) | (simp only [hji6] at H ⊢; exact H)
   have hji6w : (IntKind.i64.wrap ((wrap64 ((wrap64 ((wrap64 (a1 - 1)) * a2_0)) + a0)) - 1)) = ji6 := (i64_w _).trans hji6
   by_cases c7 : 0 ≤ (ji6)
   ·rw [if_pos c7] at H
    have c7b0 : decide (0 ≤ (ji6)) = true := decide_eq_true c7; clear c7
    by_cases c8 : (ji6) < (l2_3.length : Int)
    ·rw [if_pos c8] at H
     have c8b0 : decide ((ji6) < (l2_3.length : Int)) = true := decide_eq_true c8; clear c8; obtain rfl := Option.some.inj H; have hcz9_0 : w.cell? ⟨B2, 0, none⟩ = some (.int .i64 a2_0) := bc0_ BK2.out; have hcz9_1 : w.cell? ⟨B2, 1, none⟩ = some (.int .i64 a2_1) := bc1_ BK2.out; have hcz9_2 : w.cell? ⟨B2, 2, none⟩ = some (.int .i64 a2_2) := bc2_ BK2.out; have hcz9_3 : w.cell? ⟨B2, 3, none⟩ = some (.slice A2_3 l2_3.length c2_3) := bc3_ BK2.out; have hfz9_0 := blk_frozen BK2.out 0; have hfz9_1 := blk_frozen BK2.out 1; have hfz9_2 := blk_frozen BK2.out 2; have hfz9_3 := blk_frozen BK2.out 3; have p240 : 0 ≤ ((ji6) : Int) := of_decide_eq_true q216_; have q240 : (ji6) < (l2_3.length : Int) := of_decide_eq_true q216_; obtain ⟨ad240, e240, hx240_0⟩ := Kd.at_int HR2_3.out (ji6) p240 q240; cases e240; replace p240 := eq_true p240; replace q240 := eq_true q240
     go_enter Try.func34, Try.ntmps34
     go_wp2
     go_ret
     exact ⟨q107_, q136_⟩
    ·rw [if_neg c8] at H
     exact absurd H (by simp)
   ·rw [if_neg c7] at H
    exact absurd H (by simp)

end Go.Proofs.Ytkipnpgcpohlcaa.PIntegralWhole
