-- Written by a program of the session (wip/tools/pack.py): the printed texts, pruned; checked by Lean.
import Derived.Test.YtkipnpgcpohlcaaKIntegralTilesa
import Derived.Test.YtkipnpgcpohlcaaKIntegralTilesx0
import Derived.Test.YtkipnpgcpohlcaaKIntegralTilesx5
import Derived.Test.YtkipnpgcpohlcaaKIntegralTilesx7
namespace Go.Proofs.Ytkipnpgcpohlcaa.PIntegralTiles
open Go.RowKit Go.Proofs.YtkipnpgcpohlcaaW.PrintWords Go.Proofs.YtkipnpgcpohlcaaW.PrintLast Go.Proofs.YtkipnpgcpohlcaaW.PrintMore
attribute [local go_sem] max2_int min2_int max_two min_two max_three min_three max_four min_four   -- for this text's walks alone
set_option linter.unusedVariables false
set_option linter.unusedSimpArgs false
def integral_Whole.f (k : Nat) (a0_0 : Int) (a0_1 : Int) (a0_2 : Int) (l0_3 : List Int) : Option (Int × Int × Int × List Int × Int) := (integral_check.f k a0_0 a0_1 a0_2 l0_3).bind fun t226 => (if t226 = 0 then (if 0 ≤ a0_1 then (if (a0_1 : Int).toNat ≤ 35184372088832 then (if 0 ≤ a0_0 then (if (a0_0 : Int).toNat ≤ 35184372088832 then ((integral_Tile.f k a0_0 a0_1 a0_2 l0_3 0 0 a0_0 a0_1 (List.replicate (a0_1 : Int).toNat 0) (List.replicate (a0_0 : Int).toNat 0) 0).bind fun bt233 => (some (bt233.1, bt233.2.1, bt233.2.2.1, bt233.2.2.2.1, bt233.2.2.2.2))) else (none)) else (none)) else (none)) else (none)) else (some (0, 0, 0, ([] : List Int), t226)))
theorem integral_Whole.mono : ∀ a0 a1 a2 a3 k, LeO (integral_Whole.f k a0 a1 a2 a3) (integral_Whole.f (k + 1) a0 a1 a2 a3) := by
 intro a0 a1 a2 a3 k; unfold integral_Whole.f
 repeat' first
   | (with_reducible exact integral_Tile.mono _ _ _ _ _ _ _ _ _ _ _ _)
   | (with_reducible exact integral_check.mono _ _ _ _ _)
   | (with_reducible exact LeO.refl _)
   | (with_reducible exact LeO.none _)
   | (with_reducible refine LeO.ite ?_ ?_)
   | (with_reducible refine LeO.bind ?_ (fun _ => ?_))
   | exact integral_Tile.mono _ _ _ _ _ _ _ _ _ _ _ _
   | exact integral_check.mono _ _ _ _ _
   | exact LeO.none _
   | refine LeO.ite ?_ ?_
   | refine LeO.bind ?_ (fun _ => ?_)
def integral_Whole.T4 : Bool × List (List Nat × List Nat) := (true, [([], []), ([], []), ([1], [1]), ([], []), ([3], [3]), ([2, 4], [2, 4]), ([], []), ([6], [6]), ([7, 7], [7]), ([], []), ([9], [9]), ([10, 10], [10]), ([0, 5, 8, 11], [0, 5, 8, 11]), ([12], [12]), ([12], [12]), ([13, 12, 0, 1, 2, 3, 4, 5, 6, 7, 8, 9, 10, 11, 12, 13, 14], [13]), ([14, 15, 0, 1, 2, 3, 4, 5, 6, 7, 8, 9, 10, 11, 12, 13, 14, 15], [14])])
def integral_Whole.B4 : List Nat := [0, 0, 2, 0, 8, 30, 0, 64, 192, 0, 512, 1536, 4095, 8191, 8191, 32767, 65535]
theorem integral_Whole.tab4 : rtab .any (opsOf Try.f10 4) = integral_Whole.T4 := by kernel_rfl
theorem integral_Whole.bits4 : waitsOk integral_Whole.T4.2 integral_Whole.B4 = true := by kernel_rfl
set_option maxHeartbeats 8000000 in
set_option maxRecDepth 100000 in
theorem integral_Whole.calls (k : Nat) (a0_0 : Int) (a0_1 : Int) (a0_2 : Int) (A0_3 : Option Addr) (c0_3 : Nat) (l0_3 : List Int) (r1 : Int) (r2 : Int) (r3 : Int) (r4 : List Int) (r5 : Int) (w : World) (hr0_3 : Kd.C (Kd.int .i64) w A0_3 l0_3.length l0_3) (hc0_3 : l0_3.length ≤ c0_3) (h : integral_Whole.f k a0_0 a0_1 a0_2 l0_3 = some (r1, r2, r3, r4, r5)) :
  Calls Try.prog 10 #[.agg #[.int .i64 a0_0, .int .i64 a0_1, .int .i64 a0_2, .slice A0_3 l0_3.length c0_3]] w fun e w' => ∃ v3_ : Value, e = .returned (.tuple #[.agg #[.int .i64 r1, .int .i64 r2, .int .i64 r3, v3_], .int .i64 r5]) ∧ Kd.R (Kd.int .i64) 3 w' w.heap.size (fun _ => True) v3_ r4 ∧ Below w.heap.size w w' := by
 have hu26 := Try.underlying26; have hu32 := Try.underlying32; have HR0_3 := am_ hr0_3; have HC0_3 := am_ hc0_3; clear hr0_3 hc0_3; have HB := am_ (Below.refl w.heap.size w); have H : ((integral_check.f k a0_0 a0_1 a0_2 l0_3).bind fun t226 => (if t226 = 0 then (if 0 ≤ a0_1 then (if (a0_1 : Int).toNat ≤ 35184372088832 then (if 0 ≤ a0_0 then (if (a0_0 : Int).toNat ≤ 35184372088832 then ((integral_Tile.f k a0_0 a0_1 a0_2 l0_3 0 0 a0_0 a0_1 (List.replicate (a0_1 : Int).toNat 0) (List.replicate (a0_0 : Int).toNat 0) 0).bind fun bt233 => (some (bt233.1, bt233.2.1, bt233.2.2.1, bt233.2.2.2.1, bt233.2.2.2.2))) else (none)) else (none)) else (none)) else (none)) else (some (0, 0, 0, ([] : List Int), t226)))) = some (r1, r2, r3, r4, r5) := h; clear h; replace H := Option.bind_eq_some_iff.mp H; obtain ⟨t226, A20, H⟩ := H; replace H : (if t226 = 0 then (if 0 ≤ a0_1 then (if (a0_1 : Int).toNat ≤ 35184372088832 then (if 0 ≤ a0_0 then (if (a0_0 : Int).toNat ≤ 35184372088832 then ((integral_Tile.f k a0_0 a0_1 a0_2 l0_3 0 0 a0_0 a0_1 (List.replicate (a0_1 : Int).toNat 0) (List.replicate (a0_0 : Int).toNat 0) 0).bind fun bt233 => (some (bt233.1, bt233.2.1, bt233.2.2.1, bt233.2.2.2.1, bt233.2.2.2.2))) else (none)) else (none)) else (none)) else (none)) else (some (0, 0, 0, ([] : List Int), t226))) = some (r1, r2, r3, r4, r5) := H; have A2 := am_ A20; clear A20
 by_cases c3 : t226 = 0
 ·rw [if_pos c3] at H
  have c3b0 : (t226 == 0) = true := beq_iff_eq.mpr c3; have c3b1 : (t226 != 0) = false := bne_eq_false_iff_eq.mpr c3; clear c3
  by_cases c4 : 0 ≤ a0_1
  ·rw [if_pos c4] at H
   have c4b0 := eq_true c4; have c4b1 : decide (0 ≤ a0_1) = true := decide_eq_true c4; clear c4
   by_cases c5 : (a0_1 : Int).toNat ≤ 35184372088832
   ·rw [if_pos c5] at H
    have c5b0 := eq_true c5; have c5b1 : decide ((a0_1 : Int).toNat ≤ 35184372088832) = true := decide_eq_true c5; clear c5; obtain ⟨y227, hy227⟩ : ∃ y_ : List Int, y_ = (List.replicate (a0_1 : Int).toNat 0) := ⟨_, rfl⟩; replace H : (if 0 ≤ a0_0 then (if (a0_0 : Int).toNat ≤ 35184372088832 then ((integral_Tile.f k a0_0 a0_1 a0_2 l0_3 0 0 a0_0 a0_1 y227 (List.replicate (a0_0 : Int).toNat 0) 0).bind fun bt233 => (some (bt233.1, bt233.2.1, bt233.2.2.1, bt233.2.2.2.1, bt233.2.2.2.2))) else (none)) else (none)) = some (r1, r2, r3, r4, r5) := by first | (rw [hy227]; with_reducible exact H) | (have H2_ := (Option.bind_some _ _).symm.trans H; rw [hy227]; with_reducible exact H2_) | (have H2_ := (Option.bind_some _ _).symm.trans H; with_reducible exact H2_) | with_reducible exact H | (rw [hy227]; exact H) | exact H
    have Ny227 := am_ hy227; clear hy227
    by_cases c6 : 0 ≤ a0_0
    ·rw [if_pos c6] at H
     have c6b0 := eq_true c6; have c6b1 : decide (0 ≤ a0_0) = true := decide_eq_true c6; clear c6
     by_cases c7 : (a0_0 : Int).toNat ≤ 35184372088832
     ·rw [if_pos c7] at H
      have c7b0 := eq_true c7; have c7b1 : decide ((a0_0 : Int).toNat ≤ 35184372088832) = true := decide_eq_true c7; clear c7; obtain ⟨y230, hy230⟩ : ∃ y_ : List Int, y_ = (List.replicate (a0_0 : Int).toNat 0) := ⟨_, rfl⟩; replace H : ((integral_Tile.f k a0_0 a0_1 a0_2 l0_3 0 0 a0_0 a0_1 y227 y230 0).bind fun bt233 => (some (bt233.1, bt233.2.1, bt233.2.2.1, bt233.2.2.2.1, bt233.2.2.2.2))) = some (r1, r2, r3, r4, r5) := by first | (rw [hy230]; with_reducible exact H) | (have H2_ := (Option.bind_some _ _).symm.trans H; rw [hy230]; with_reducible exact H2_) | (have H2_ := (Option.bind_some _ _).symm.trans H; with_reducible exact H2_) | with_reducible exact H | (rw [hy230]; exact H) | exact H
      have Ny230 := am_ hy230; clear hy230; replace H := Option.bind_eq_some_iff.mp H; obtain ⟨⟨t233, t234, t235, t236, t239⟩, A80, H⟩ := H; replace H : (some (t233, t234, t235, t236, t239)) = some (r1, r2, r3, r4, r5) := H; have A8 := am_ A80; clear A80; simp only [Option.some.injEq, Prod.mk.injEq] at H; obtain ⟨rfl, rfl, rfl, rfl, rfl⟩ := H
      go_enter Try.func10, Try.ntmps10
      try go_wp2_with (first | ((with_reducible refine gate_dst (N := 1) rfl ?_); refine box_event ?hg (N := 1) ?hd (cs := #[.int .i64 a0_0, .int .i64 a0_1, .int .i64 a0_2, .slice A0_3 l0_3.length c0_3]) (t := 26) ?hr ?_; (case hd => rfl); (case hg => rfl); (case hr => first | (go_simp; done) | (go_simp; rfl)); intro gb224 hg w9 hbox hb; have n0_ := am_ (below_step q120_ hb); have n1_ := am_ (hbox); have n2_ := am_ ((q88_ : w.heap.size ≤ gb224)); have n3_ := am_ ((q88_ : w.heap.size ≤ gb224)); clear HB; have HB := n0_; have BK224 := n1_; have GW224 := n2_; have GE224 := n3_; clear n0_ n1_ n2_ n3_; clear hb hbox hg) | ((with_reducible refine gate_dst (N := 2) rfl ?_); refine box_event ?hg (N := 2) ?hd (cs := #[.int .i64 0, .int .i64 0, .int .i64 0, .slice none 0 0]) (t := 26) ?hr ?_; (case hd => rfl); (case hg => rfl); (case hr => first | (go_simp; done) | (go_simp; rfl)); intro gb225 hg w10 hbox hb; have n0_ := am_ (blk_below (g := gb224) (o := .cells #[.int .i64 a0_0, .int .i64 a0_1, .int .i64 a0_2, .slice A0_3 l0_3.length c0_3] 26 (0, 0)) q140_ hb); have n1_ := am_ (below_step q98_ hb); have n2_ := am_ (hbox); have n3_ := am_ ((q67_ : w.heap.size ≤ gb225)); have n4_ := am_ ((q67_ : w.heap.size ≤ gb225)); have n5_ := am_ ((by rw [hg]; exact Nat.ne_of_lt (blk_lt (g := gb224) (o := .cells #[.int .i64 a0_0, .int .i64 a0_1, .int .i64 a0_2, .slice A0_3 l0_3.length c0_3] 26 (0, 0)) q140_) : gb224 ≠ gb225)); have n6_ := am_ ((by rw [hg]; exact Nat.ne_of_gt (blk_lt (g := gb224) (o := .cells #[.int .i64 a0_0, .int .i64 a0_1, .int .i64 a0_2, .slice A0_3 l0_3.length c0_3] 26 (0, 0)) q140_) : gb225 ≠ gb224)); clear BK224 HB; have BK224 := n0_; have HB := n1_; have BK225 := n2_; have GW225 := n3_; have GE225 := n4_; have NB224_225 := n5_; have NB225_224 := n6_; clear n0_ n1_ n2_ n3_ n4_ n5_ n6_; clear hb hbox hg; have hnb11 := NB224_225.out; have hnc11 := NB225_224.out; have hcz12_0 : w10.cell? ⟨gb224, 0, none⟩ = some (.int .i64 a0_0) := (blk_cell BK224.out 0).trans rfl; have hcz12_1 : w10.cell? ⟨gb224, 1, none⟩ = some (.int .i64 a0_1) := (blk_cell BK224.out 1).trans rfl; have hcz12_2 : w10.cell? ⟨gb224, 2, none⟩ = some (.int .i64 a0_2) := (blk_cell BK224.out 2).trans rfl; have hcz12_3 : w10.cell? ⟨gb224, 3, none⟩ = some (.slice A0_3 l0_3.length c0_3) := (blk_cell BK224.out 3).trans rfl; have hfz12_0 := blk_frozen BK224.out 0; have hfz12_1 := blk_frozen BK224.out 1; have hfz12_2 := blk_frozen BK224.out 2; have hfz12_3 := blk_frozen BK224.out 3) | ((with_reducible refine gate_callee (f := 29) rfl ?_); refine goesL_ (some 6) rfl rfl Try.func29 (by kernel_rfl) rfl #[.agg #[.int .i64 a0_0, .int .i64 a0_1, .int .i64 a0_2, .slice A0_3 l0_3.length c0_3]] rfl q117_ ?_; (with_reducible refine (integral_check.calls k a0_0 a0_1 a0_2 _ _ l0_3 t226 _ ?side1 ?side2 A2.out).mono ?_); (case side1 => repeat (first | exact (Kd.C_below HR0_3.out HB.out) | (with_reducible refine Kd.C_alloc ?_ _) | (with_reducible refine Kd.C_drewN ?_ _) | (with_reducible refine Kd.C_drew ?_))); (case side2 => exact HC0_3.out); rintro e w13 ⟨rfl, hb⟩; refine ⟨_, rfl, ?_⟩; have n0_ := am_ (blk_below (g := gb224) (o := .cells #[.int .i64 a0_0, .int .i64 a0_1, .int .i64 a0_2, .slice A0_3 l0_3.length c0_3] 26 (0, 0)) q140_ hb); have n1_ := am_ (blk_below (g := gb225) (o := .cells #[.int .i64 0, .int .i64 0, .int .i64 0, .slice none 0 0] 26 (0, 0)) q141_ hb); have n2_ := am_ (below_step q75_ hb); clear BK224 BK225 HB; have BK224 := n0_; have BK225 := n1_; have HB := n2_; clear n0_ n1_ n2_; (try clear hb); (try clear hb2); (try clear hk); (try clear hi)))
      have n0_ := am_ (blk_drew BK224.out); have n1_ := am_ (blk_drew BK225.out); have n2_ := am_ (below_drew1 HB.out); clear BK224 BK225 HB; have BK224 := n0_; have BK225 := n1_; have HB := n2_; clear n0_ n1_ n2_; refine start_ (n := 17) (S := fun w' => w'.cell? ⟨gb224, 0, none⟩ = some (.int .i64 a0_0) ∧ w'.cell? ⟨gb224, 1, none⟩ = some (.int .i64 a0_1) ∧ w'.cell? ⟨gb224, 2, none⟩ = some (.int .i64 a0_2) ∧ w'.cell? ⟨gb224, 3, none⟩ = some (.slice A0_3 l0_3.length c0_3)) (ds := []) #[false, false, false, false, false, false, false, false, false, false, false, false, false, false, false, false, false] (by kernel_rfl) rfl rfl ⟨(blk_cell BK224.out 0).trans rfl, (blk_cell BK224.out 1).trans rfl, (blk_cell BK224.out 2).trans rfl, (blk_cell BK224.out 3).trans rfl⟩ (fun hHeld => ?_); refine with_tabW integral_Whole.tab4 integral_Whole.bits4 (fun HT_ HW_ => ?_); generalize w13.drew = w14 at BK224 BK225 HB hHeld ⊢; refine pure_ (i := 1) (N := some 12) (v := ?_) (a' := ?_) #[false, true, false, false, false, false, false, false, false, false, false, false, false, false, false, false, false] rfl rfl (any_of HT_.out (by kernel_rfl)) (fun _ _ _ h => h) (Or.inl ⟨by rfl, ?_⟩) ?_ ?_; rotate_left
      ·intro w'
       go_simp
       with_reducible rfl
      rotate_left
      ·simp only [Act.put, la_, lz_, ls_, i64_w, i32_w]
       rfl
      refine pure_ (i := 3) (N := some 14) (v := ?_) (a' := ?_) #[false, true, false, true, false, false, false, false, false, false, false, false, false, false, false, false, false] rfl rfl (any_of HT_.out (by kernel_rfl)) (fun _ _ _ h => h) (Or.inl ⟨by rfl, ?_⟩) ?_ ?_; rotate_left
      ·intro w'
       go_simp
       with_reducible rfl
      rotate_left
      ·simp only [Act.put, la_, lz_, ls_, i64_w, i32_w]
       rfl
      refine pure_ (i := 6) (N := some 17) (v := ?_) (a' := ?_) #[false, true, false, true, false, false, true, false, false, false, false, false, false, false, false, false, false] rfl rfl (any_of HT_.out (by kernel_rfl)) (fun _ _ _ h => h) (Or.inl ⟨by rfl, ?_⟩) ?_ ?_; rotate_left
      ·intro w'
       go_simp
       with_reducible rfl
      rotate_left
      ·simp only [Act.put, la_, lz_, ls_, i64_w, i32_w]
       rfl
      refine pure_ (i := 9) (N := some 20) (v := ?_) (a' := ?_) #[false, true, false, true, false, false, true, false, false, true, false, false, false, false, false, false, false] rfl rfl (any_of HT_.out (by kernel_rfl)) (fun _ _ _ h => h) (Or.inl ⟨by rfl, ?_⟩) ?_ ?_; rotate_left
      ·intro w'
       go_simp
       with_reducible rfl
      rotate_left
      ·simp only [Act.put, la_, lz_, ls_, i64_w, i32_w]
       rfl
      refine take_ (i := 0) (N := some 11) (v := ?_) (a' := ?_) #[true, true, false, true, false, false, true, false, false, true, false, false, false, false, false, false, false] rfl rfl (take_ofW HT_.out HW_.out (by kernel_rfl)) (fun _ _ _ h => h) (Or.inl ⟨by rfl, ?_⟩) hHeld ?_ ?_; rotate_left
      ·rintro w' ⟨s0, s1, s2, s3⟩
       go_simp
       with_reducible rfl
      rotate_left
      ·simp only [Act.put, la_, lz_, ls_, i64_w, i32_w]
       rfl
      refine take_ (i := 2) (N := some 13) (v := ?_) (a' := ?_) #[true, true, true, true, false, false, true, false, false, true, false, false, false, false, false, false, false] rfl rfl (take_ofW HT_.out HW_.out (by kernel_rfl)) (fun _ _ _ h => h) (Or.inl ⟨by rfl, ?_⟩) hHeld ?_ ?_; rotate_left
      ·rintro w' ⟨s0, s1, s2, s3⟩
       go_simp
       with_reducible rfl
      rotate_left
      ·simp only [Act.put, la_, lz_, ls_, i64_w, i32_w]
       rfl
      refine take_ (i := 4) (N := some 15) (v := ?_) (a' := ?_) #[true, true, true, true, true, false, true, false, false, true, false, false, false, false, false, false, false] rfl rfl (take_ofW HT_.out HW_.out (by kernel_rfl)) (fun _ _ _ h => h) (Or.inl ⟨by rfl, ?_⟩) hHeld ?_ ?_; rotate_left
      ·rintro w' ⟨s0, s1, s2, s3⟩
       go_simp
       with_reducible rfl
      rotate_left
      ·simp only [Act.put, la_, lz_, ls_, i64_w, i32_w]
       rfl
      refine pure_ (i := 5) (N := some 16) (v := ?_) (a' := ?_) #[true, true, true, true, true, true, true, false, false, true, false, false, false, false, false, false, false] rfl rfl (any_of HT_.out (by kernel_rfl)) (fun _ _ _ h => h) (Or.inl ⟨by rfl, ?_⟩) ?_ ?_; rotate_left
      ·intro w'
       go_simp
       with_reducible rfl
      rotate_left
      ·simp only [Act.put, la_, lz_, ls_, i64_w, i32_w]
       rfl
      refine take_ (i := 7) (N := some 18) (v := ?_) (a' := ?_) #[true, true, true, true, true, true, true, true, false, true, false, false, false, false, false, false, false] rfl rfl (take_ofW HT_.out HW_.out (by kernel_rfl)) (fun _ _ _ h => h) (Or.inl ⟨by rfl, ?_⟩) hHeld ?_ ?_; rotate_left
      ·rintro w' ⟨s0, s1, s2, s3⟩
       go_simp
       with_reducible rfl
      rotate_left
      ·simp only [Act.put, la_, lz_, ls_, i64_w, i32_w]
       rfl
      refine take_ (i := 10) (N := some 21) (v := ?_) (a' := ?_) #[true, true, true, true, true, true, true, true, false, true, true, false, false, false, false, false, false] rfl rfl (take_ofW HT_.out HW_.out (by kernel_rfl)) (fun _ _ _ h => h) (Or.inl ⟨by rfl, ?_⟩) hHeld ?_ ?_; rotate_left
      ·rintro w' ⟨s0, s1, s2, s3⟩
       go_simp
       with_reducible rfl
      rotate_left
      ·simp only [Act.put, la_, lz_, ls_, i64_w, i32_w]
       rfl
      refine join_ (σ := Value × Value) 5 #[true, true, true, true, true, true, true, true, true, true, true, true, false, false, false, false, false] (fun s_ => [(19, s_.1), (22, s_.2)]) (fun s_ w' => (w'.cell? ⟨gb224, 0, none⟩ = some (.int .i64 a0_0) ∧ w'.cell? ⟨gb224, 1, none⟩ = some (.int .i64 a0_1) ∧ w'.cell? ⟨gb224, 2, none⟩ = some (.int .i64 a0_2) ∧ w'.cell? ⟨gb224, 3, none⟩ = some (.slice A0_3 l0_3.length c0_3)) ∧ (Kd.R (Kd.int .i64) 3 w' w.heap.size (fun k_ => some k_ ≠ (s_.2 : Value).ownBlock) s_.1 y227) ∧ (Kd.R (Kd.int .i64) 3 w' w.heap.size (fun k_ => some k_ ≠ (s_.1 : Value).ownBlock) s_.2 y230) ∧ (w'.heap[gb224]? = some (.cells #[.int .i64 a0_0, .int .i64 a0_1, .int .i64 a0_2, .slice A0_3 l0_3.length c0_3] 26 (0, 0))) ∧ (w'.heap[gb225]? = some (.cells #[.int .i64 0, .int .i64 0, .int .i64 0, .slice none 0 0] 26 (0, 0))) ∧ (Below w.heap.size w w')) ?_ ?_; rotate_left
      ·intro hCont
       refine two_ (i := 8) (j := 11) (Ni := some 19) (Nj := some 22) #[true, true, true, true, true, true, true, true, true, true, true, false, false, false, false, false, false] #[true, true, true, true, true, true, true, true, false, true, true, true, false, false, false, false, false] rfl rfl rfl rfl (two_of HT_.out (by kernel_rfl)) (by decide) (by decide) (fun K hK => ?_) (fun K hK => ?_)
       ·skip
        refine Kd.R_make_step (Kd.int .i64) _ 3 (by rfl) (N := 19) rfl 22 _ _ rfl a0_1 rfl rfl Try.underlying22 (.int .i64 0) 8 info3 rfl (by decide) (by omega) 0 (ok := fun _ => True) (okp := fun _ => True) rfl (fun _ hk => hk) trivial (of_decide_eq_true q183_) (Nat.le_trans (Nat.mul_le_mul_right _ (of_decide_eq_true q183_ : a0_1.toNat ≤ 35184372088832)) (by omega)) (Below.refl _ _) (Nat.le_refl _) ?_; intro v228 w15 ho16 hb hg_ hnew_; clear hg_ hnew_; (first | rw [← Ny227.out] at ho16 | (simp only [Int.reduceToNat] at ho16; rw [← Ny227.out] at ho16)); have n0_ := am_ (Kd.R_lower ho16 (below_size q75_)); have n1_ := am_ (blk_below (g := gb224) (o := .cells #[.int .i64 a0_0, .int .i64 a0_1, .int .i64 a0_2, .slice A0_3 l0_3.length c0_3] 26 (0, 0)) q140_ hb); have n2_ := am_ (blk_below (g := gb225) (o := .cells #[.int .i64 0, .int .i64 0, .int .i64 0, .slice none 0 0] 26 (0, 0)) q141_ hb); have n3_ := am_ (below_step q75_ hb); clear BK224 BK225 HB; have HO229 := n0_; have BK224 := n1_; have BK225 := n2_; have HB := n3_; clear n0_ n1_ n2_ n3_; clear hb ho16; refine hK.out _ _ ⟨(blk_cell BK224.out 0).trans rfl, (blk_cell BK224.out 1).trans rfl, (blk_cell BK224.out 2).trans rfl, (blk_cell BK224.out 3).trans rfl⟩ (fun hHeld => ?_); clear hK K; refine norm_ (a' := ?_) ?_ ?_; rotate_left
        ·show Act.put _ (some 19) _ = _
         simp only [Act.put, la_, lz_, ls_, i64_w, i32_w]; rfl
        refine one_ (i := 11) (N := some 22) #[true, true, true, true, true, true, true, true, true, true, true, true, false, false, false, false, false] rfl rfl (one_of HT_.out (by kernel_rfl)) (by decide) (fun K hK => ?_); refine Kd.R_make_step (Kd.int .i64) _ 3 (by rfl) (N := 22) rfl 22 _ _ rfl a0_0 rfl rfl Try.underlying22 (.int .i64 0) 8 info3 rfl (by decide) (by omega) 0 (ok := fun _ => True) (okp := fun _ => True) rfl (fun _ hk => hk) trivial (of_decide_eq_true q183_) (Nat.le_trans (Nat.mul_le_mul_right _ (of_decide_eq_true q183_ : a0_0.toNat ≤ 35184372088832)) (by omega)) (Below.refl _ _) (Nat.le_refl _) ?_; intro v231 w17 ho18 hb hg_ hnew_; clear hg_ hnew_; (first | rw [← Ny230.out] at ho18 | (simp only [Int.reduceToNat] at ho18; rw [← Ny230.out] at ho18)); have n0_ := am_ (Kd.R_elder' q170_ (Kd.R_base ho18) hb); have n1_ := am_ (Kd.R_lower (Kd.R_new' ho18 (Kd.R_lt q170_)) (below_size q75_)); have n2_ := am_ (blk_below (g := gb224) (o := .cells #[.int .i64 a0_0, .int .i64 a0_1, .int .i64 a0_2, .slice A0_3 l0_3.length c0_3] 26 (0, 0)) q140_ hb); have n3_ := am_ (blk_below (g := gb225) (o := .cells #[.int .i64 0, .int .i64 0, .int .i64 0, .slice none 0 0] 26 (0, 0)) q141_ hb); have n4_ := am_ (below_step q75_ hb); clear HO229 BK224 BK225 HB; have HO229 := n0_; have HO232 := n1_; have BK224 := n2_; have BK225 := n3_; have HB := n4_; clear n0_ n1_ n2_ n3_ n4_; clear hb ho18; refine hK.out _ _ ⟨(blk_cell BK224.out 0).trans rfl, (blk_cell BK224.out 1).trans rfl, (blk_cell BK224.out 2).trans rfl, (blk_cell BK224.out 3).trans rfl⟩ (fun hHeld => ?_); clear hK K; refine norm_ (a' := ?_) ?_ ?_; rotate_left
        ·show Act.put _ (some 22) _ = _
         simp only [Act.put, la_, lz_, ls_, i64_w, i32_w]; rfl
        exact norm_ (by simp only [putAll, Act.put, la_, lz_, ls_]) (hCont (v228, v231) _ ⟨hHeld, (by (with_reducible repeat (first | apply Kd.R_alloc | apply Kd.R_drewN | apply Kd.R_drew)); exact Kd.R_mono HO229.out (fun _ hk => hk.2)), (by (with_reducible repeat (first | apply Kd.R_alloc | apply Kd.R_drewN | apply Kd.R_drew)); exact Kd.R_mono HO232.out (fun _ hk => hk.2)), q140_, q141_, q75_⟩)
       ·skip
        refine Kd.R_make_step (Kd.int .i64) _ 3 (by rfl) (N := 22) rfl 22 _ _ rfl a0_0 rfl rfl Try.underlying22 (.int .i64 0) 8 info3 rfl (by decide) (by omega) 0 (ok := fun _ => True) (okp := fun _ => True) rfl (fun _ hk => hk) trivial (of_decide_eq_true q183_) (Nat.le_trans (Nat.mul_le_mul_right _ (of_decide_eq_true q183_ : a0_0.toNat ≤ 35184372088832)) (by omega)) (Below.refl _ _) (Nat.le_refl _) ?_; intro v231 w15 ho16 hb hg_ hnew_; clear hg_ hnew_; (first | rw [← Ny230.out] at ho16 | (simp only [Int.reduceToNat] at ho16; rw [← Ny230.out] at ho16)); have n0_ := am_ (Kd.R_lower ho16 (below_size q75_)); have n1_ := am_ (blk_below (g := gb224) (o := .cells #[.int .i64 a0_0, .int .i64 a0_1, .int .i64 a0_2, .slice A0_3 l0_3.length c0_3] 26 (0, 0)) q140_ hb); have n2_ := am_ (blk_below (g := gb225) (o := .cells #[.int .i64 0, .int .i64 0, .int .i64 0, .slice none 0 0] 26 (0, 0)) q141_ hb); have n3_ := am_ (below_step q75_ hb); clear BK224 BK225 HB; have HO232 := n0_; have BK224 := n1_; have BK225 := n2_; have HB := n3_; clear n0_ n1_ n2_ n3_; clear hb ho16; refine hK.out _ _ ⟨(blk_cell BK224.out 0).trans rfl, (blk_cell BK224.out 1).trans rfl, (blk_cell BK224.out 2).trans rfl, (blk_cell BK224.out 3).trans rfl⟩ (fun hHeld => ?_); clear hK K; refine norm_ (a' := ?_) ?_ ?_; rotate_left
        ·show Act.put _ (some 22) _ = _
         simp only [Act.put, la_, lz_, ls_, i64_w, i32_w]; rfl
        refine one_ (i := 8) (N := some 19) #[true, true, true, true, true, true, true, true, true, true, true, true, false, false, false, false, false] rfl rfl (one_of HT_.out (by kernel_rfl)) (by decide) (fun K hK => ?_); refine Kd.R_make_step (Kd.int .i64) _ 3 (by rfl) (N := 19) rfl 22 _ _ rfl a0_1 rfl rfl Try.underlying22 (.int .i64 0) 8 info3 rfl (by decide) (by omega) 0 (ok := fun _ => True) (okp := fun _ => True) rfl (fun _ hk => hk) trivial (of_decide_eq_true q183_) (Nat.le_trans (Nat.mul_le_mul_right _ (of_decide_eq_true q183_ : a0_1.toNat ≤ 35184372088832)) (by omega)) (Below.refl _ _) (Nat.le_refl _) ?_; intro v228 w17 ho18 hb hg_ hnew_; clear hg_ hnew_; (first | rw [← Ny227.out] at ho18 | (simp only [Int.reduceToNat] at ho18; rw [← Ny227.out] at ho18)); have n0_ := am_ (Kd.R_elder' q171_ (Kd.R_base ho18) hb); have n1_ := am_ (Kd.R_lower (Kd.R_new' ho18 (Kd.R_lt q171_)) (below_size q75_)); have n2_ := am_ (blk_below (g := gb224) (o := .cells #[.int .i64 a0_0, .int .i64 a0_1, .int .i64 a0_2, .slice A0_3 l0_3.length c0_3] 26 (0, 0)) q140_ hb); have n3_ := am_ (blk_below (g := gb225) (o := .cells #[.int .i64 0, .int .i64 0, .int .i64 0, .slice none 0 0] 26 (0, 0)) q141_ hb); have n4_ := am_ (below_step q75_ hb); clear HO232 BK224 BK225 HB; have HO232 := n0_; have HO229 := n1_; have BK224 := n2_; have BK225 := n3_; have HB := n4_; clear n0_ n1_ n2_ n3_ n4_; clear hb ho18; refine hK.out _ _ ⟨(blk_cell BK224.out 0).trans rfl, (blk_cell BK224.out 1).trans rfl, (blk_cell BK224.out 2).trans rfl, (blk_cell BK224.out 3).trans rfl⟩ (fun hHeld => ?_); clear hK K; refine norm_ (a' := ?_) ?_ ?_; rotate_left
        ·show Act.put _ (some 19) _ = _
         simp only [Act.put, la_, lz_, ls_, i64_w, i32_w]; rfl
        exact norm_ (by simp only [putAll, Act.put, la_, lz_, ls_]) (hCont (v228, v231) _ ⟨hHeld, (by (with_reducible repeat (first | apply Kd.R_alloc | apply Kd.R_drewN | apply Kd.R_drew)); exact Kd.R_mono HO229.out (fun _ hk => hk.2)), (by (with_reducible repeat (first | apply Kd.R_alloc | apply Kd.R_drewN | apply Kd.R_drew)); exact Kd.R_mono HO232.out (fun _ hk => hk.2)), q140_, q141_, q75_⟩)
      rintro ⟨v228, v231⟩ w19 ⟨hS_, h0_, h1_, h2_, h3_, h4_⟩; have n0_ : Aside0 (Kd.R (Kd.int .i64) 3 w19 w.heap.size (fun k_ => some k_ ≠ (v231 : Value).ownBlock) v228 y227) := ⟨h0_⟩; have n1_ : Aside0 (Kd.R (Kd.int .i64) 3 w19 w.heap.size (fun k_ => some k_ ≠ (v228 : Value).ownBlock) v231 y230) := ⟨h1_⟩; have n2_ : Aside0 (w19.heap[gb224]? = some (.cells #[.int .i64 a0_0, .int .i64 a0_1, .int .i64 a0_2, .slice A0_3 l0_3.length c0_3] 26 (0, 0))) := ⟨h2_⟩; have n3_ : Aside0 (w19.heap[gb225]? = some (.cells #[.int .i64 0, .int .i64 0, .int .i64 0, .slice none 0 0] 26 (0, 0))) := ⟨h3_⟩; have n4_ : Aside0 (Below w.heap.size w w19) := ⟨h4_⟩; clear BK224 BK225 HB; clear h0_ h1_ h2_ h3_ h4_; have HO229 := n0_; have HO232 := n1_; have BK224 := n2_; have BK225 := n3_; have HB := n4_; clear n0_ n1_ n2_ n3_ n4_; have hHeld : w19.cell? ⟨gb224, 0, none⟩ = some (.int .i64 a0_0) ∧ w19.cell? ⟨gb224, 1, none⟩ = some (.int .i64 a0_1) ∧ w19.cell? ⟨gb224, 2, none⟩ = some (.int .i64 a0_2) ∧ w19.cell? ⟨gb224, 3, none⟩ = some (.slice A0_3 l0_3.length c0_3) := hS_; obtain ⟨Ao20, co20, eo20⟩ := Kd.R_slice HO229.out; (first | subst eo20 | (injection eo20 with f1_ f2_ f3_; have f4_ := f1_.symm; have f5_ := f3_.symm; clear f1_ f2_ f3_; subst f4_; subst f5_)); obtain ⟨Ao21, co21, eo21⟩ := Kd.R_slice HO232.out; (first | subst eo21 | (injection eo21 with f1_ f2_ f3_; have f4_ := f1_.symm; have f5_ := f3_.symm; clear f1_ f2_ f3_; subst f4_; subst f5_)); refine norm_ (a' := ?_) ?_ ?_; rotate_left
      ·simp only [putAll, Act.put, la_, lz_, ls_]
       rfl
      refine one_ (i := 12) (N := some 23) #[true, true, true, true, true, true, true, true, true, true, true, true, true, false, false, false, false] rfl rfl (one_of HT_.out (by kernel_rfl)) (by decide) (fun K hK => ?_); refine goes_ Try.func22 (by kernel_rfl) rfl #[.agg #[.int .i64 a0_0, .int .i64 a0_1, .int .i64 a0_2, .slice A0_3 l0_3.length c0_3], .agg #[.int .i64 0, .int .i64 0, .int .i64 a0_0, .int .i64 a0_1], .slice Ao20 y227.length co20, .slice Ao21 y230.length co21, .int .i64 0] (by rfl) rfl rfl q117_ ?_
      with_reducible refine (integral_Tile.calls k a0_0 a0_1 a0_2 _ _ l0_3 0 0 a0_0 a0_1 _ _ y227 _ _ y230 0 t233 t234 t235 t236 t239 _ ?side1 ?side2 ?side3 ?side4 ?side5 ?side6 A8.out).mono ?_
      (case side1 => repeat (first | exact (Kd.C_below HR0_3.out HB.out) | (with_reducible refine Kd.C_alloc ?_ _) | (with_reducible refine Kd.C_drewN ?_ _) | (with_reducible refine Kd.C_drew ?_))); (case side2 => exact HC0_3.out); (case side3 => repeat (first | exact (Kd.R_reads' HO229.out).2.2 | (with_reducible refine Kd.C_alloc ?_ _) | (with_reducible refine Kd.C_drewN ?_ _) | (with_reducible refine Kd.C_drew ?_))); (case side4 => exact (Kd.R_reads' HO229.out).2.1); (case side5 => repeat (first | exact (Kd.R_reads' HO232.out).2.2 | (with_reducible refine Kd.C_alloc ?_ _) | (with_reducible refine Kd.C_drewN ?_ _) | (with_reducible refine Kd.C_drew ?_))); (case side6 => exact (Kd.R_reads' HO232.out).2.1); rintro e w22 ⟨v237, rfl, ho0, hb⟩; refine ⟨_, rfl, ?_⟩; have n0_ := am_ (Kd.R_elder' q170_ (Kd.R_base ho0) hb); have n1_ := am_ (Kd.R_elder' q171_ (Kd.R_base ho0) hb); have n2_ := am_ (Kd.R_lower (Kd.R_new' (Kd.R_new' ho0 (Kd.R_lt q170_)) (Kd.R_lt q171_)) (below_size q75_)); have n3_ := am_ (blk_below (g := gb224) (o := .cells #[.int .i64 a0_0, .int .i64 a0_1, .int .i64 a0_2, .slice A0_3 l0_3.length c0_3] 26 (0, 0)) q140_ hb); have n4_ := am_ (blk_below (g := gb225) (o := .cells #[.int .i64 0, .int .i64 0, .int .i64 0, .slice none 0 0] 26 (0, 0)) q141_ hb); have n5_ := am_ (below_step q75_ hb); clear HO229 HO232 BK224 BK225 HB; have HO229 := n0_; have HO232 := n1_; have HO238 := n2_; have BK224 := n3_; have BK225 := n4_; have HB := n5_; clear n0_ n1_ n2_ n3_ n4_ n5_; (try clear hb); (try clear hb2); (try clear hk); (try clear hi); (try clear ho0); obtain ⟨Ao26, co26, eo26⟩ := Kd.R_slice HO238.out; (first | subst eo26 | (injection eo26 with f1_ f2_ f3_; have f4_ := f1_.symm; have f5_ := f3_.symm; clear f1_ f2_ f3_; subst f4_; subst f5_)); refine hK.out _ _ ⟨(blk_cell BK224.out 0).trans rfl, (blk_cell BK224.out 1).trans rfl, (blk_cell BK224.out 2).trans rfl, (blk_cell BK224.out 3).trans rfl⟩ (fun hHeld => ?_); clear hK K; refine norm_ (a' := ?_) ?_ ?_; rotate_left
      ·show Act.put _ (some 23) _ = _
       simp only [Act.put, la_, lz_, ls_, i64_w, i32_w]; rfl
      refine pure_ (i := 13) (N := some 24) (v := ?_) (a' := ?_) #[true, true, true, true, true, true, true, true, true, true, true, true, true, true, false, false, false] rfl rfl (any_of HT_.out (by kernel_rfl)) (fun _ _ _ h => h) (Or.inl ⟨by rfl, ?_⟩) ?_ ?_; rotate_left
      ·intro w'
       go_simp
       with_reducible rfl
      rotate_left
      ·simp only [Act.put, la_, lz_, ls_, i64_w, i32_w]
       rfl
      refine pure_ (i := 14) (N := some 25) (v := ?_) (a' := ?_) #[true, true, true, true, true, true, true, true, true, true, true, true, true, true, true, false, false] rfl rfl (any_of HT_.out (by kernel_rfl)) (fun _ _ _ h => h) (Or.inl ⟨by rfl, ?_⟩) ?_ ?_; rotate_left
      ·intro w'
       go_simp
       with_reducible rfl
      rotate_left
      ·simp only [Act.put, la_, lz_, ls_, i64_w, i32_w]
       rfl
      refine one_ (i := 15) (N := none) #[true, true, true, true, true, true, true, true, true, true, true, true, true, true, true, true, false] rfl rfl (one_of HT_.out (by kernel_rfl)) (by decide) (fun K hK => ?_); have hs23 : w22.cell? ⟨gb225, 0, none⟩ = some (.int .i64 0) := (blk_cell BK225.out 0).trans rfl; have hfs23 := blk_frozen BK225.out 0; have hns23_0 := NB224_225.out; have hms23_0 := NB225_224.out; have hs24 : w22.cell? ⟨gb225, 1, none⟩ = some (.int .i64 0) := (blk_cell BK225.out 1).trans rfl; have hfs24 := blk_frozen BK225.out 1; have hns24_0 := NB224_225.out; have hms24_0 := NB225_224.out; have hs25 : w22.cell? ⟨gb225, 2, none⟩ = some (.int .i64 0) := (blk_cell BK225.out 2).trans rfl; have hfs25 := blk_frozen BK225.out 2; have hns25_0 := NB224_225.out; have hms25_0 := NB225_224.out; have hs27 : w22.cell? ⟨gb225, 3, none⟩ = some (.slice none 0 0) := (blk_cell BK225.out 3).trans rfl; have hfs27 := blk_frozen BK225.out 3; have hns27_0 := NB224_225.out; have hms27_0 := NB225_224.out; refine skip_ (w1 := ?_) (by rfl) rfl ?_ ?_; rotate_left
      ·go_simp
       rfl
      refine hK.out _ _ ⟨((cell_far (p := ⟨gb225, _, none⟩) NB224_225.out _).trans (((cell_far (p := ⟨gb225, _, none⟩) NB224_225.out _).trans (((cell_far (p := ⟨gb225, _, none⟩) NB224_225.out _).trans (((cell_far (p := ⟨gb225, _, none⟩) NB224_225.out _).trans (hHeld.1)))))))), ((cell_far (p := ⟨gb225, _, none⟩) NB224_225.out _).trans (((cell_far (p := ⟨gb225, _, none⟩) NB224_225.out _).trans (((cell_far (p := ⟨gb225, _, none⟩) NB224_225.out _).trans (((cell_far (p := ⟨gb225, _, none⟩) NB224_225.out _).trans (hHeld.2.1)))))))), ((cell_far (p := ⟨gb225, _, none⟩) NB224_225.out _).trans (((cell_far (p := ⟨gb225, _, none⟩) NB224_225.out _).trans (((cell_far (p := ⟨gb225, _, none⟩) NB224_225.out _).trans (((cell_far (p := ⟨gb225, _, none⟩) NB224_225.out _).trans (hHeld.2.2.1)))))))), ((cell_far (p := ⟨gb225, _, none⟩) NB224_225.out _).trans (((cell_far (p := ⟨gb225, _, none⟩) NB224_225.out _).trans (((cell_far (p := ⟨gb225, _, none⟩) NB224_225.out _).trans (((cell_far (p := ⟨gb225, _, none⟩) NB224_225.out _).trans (hHeld.2.2.2))))))))⟩ (fun hHeld => ?_); clear hK K; refine pure_ (i := 16) (N := some 3) (v := ?_) (a' := ?_) #[true, true, true, true, true, true, true, true, true, true, true, true, true, true, true, true, true] rfl rfl (any_of HT_.out (by kernel_rfl)) (fun _ _ _ h => h) (Or.inl ⟨by rfl, ?_⟩) ?_ ?_; rotate_left
      ·intro w'
       go_simp
       with_reducible rfl
      rotate_left
      ·simp only [Act.put, la_, lz_, ls_, i64_w, i32_w]
       rfl
      refine done_ (done_of HT_.out (by kernel_rfl)) ?_
      try go_wp2
      refine bodyPost_ret (results_ct rfl _ _ gb225 26 #[.int .i64 t233, .int .i64 t234, .int .i64 t235, .slice Ao26 t236.length co26] (0, 0) _ rfl (by (with_reducible repeat (first | refine blk_drewN ?_ _ | refine blk_drew ?_ | refine blk_alloc ?_ _)); refine blk_put (cs := #[.int .i64 t233, .int .i64 t234, .int .i64 t235, .slice none 0 0]) ?_ 3 _ rfl; (with_reducible repeat (first | refine blk_drewN ?_ _ | refine blk_drew ?_ | refine blk_alloc ?_ _)); refine blk_put (cs := #[.int .i64 t233, .int .i64 t234, .int .i64 0, .slice none 0 0]) ?_ 2 _ rfl; (with_reducible repeat (first | refine blk_drewN ?_ _ | refine blk_drew ?_ | refine blk_alloc ?_ _)); refine blk_put (cs := #[.int .i64 t233, .int .i64 0, .int .i64 0, .slice none 0 0]) ?_ 1 _ rfl; (with_reducible repeat (first | refine blk_drewN ?_ _ | refine blk_drew ?_ | refine blk_alloc ?_ _)); refine blk_put (cs := #[.int .i64 0, .int .i64 0, .int .i64 0, .slice none 0 0]) ?_ 0 _ rfl; (with_reducible repeat (first | refine blk_drewN ?_ _ | refine blk_drew ?_ | refine blk_alloc ?_ _)); exact BK225.out) Try.underlying26 rfl (by kernel_rfl)) rfl ?_; exact ⟨_, q179_, by (with_reducible repeat (first | apply Kd.R_alloc | apply Kd.R_drewN | apply Kd.R_drew)); exact Kd.R_mono (Kd.R_far (p := ⟨gb225, 3, none⟩) (Kd.R_far (p := ⟨gb225, 2, none⟩) (Kd.R_far (p := ⟨gb225, 1, none⟩) (Kd.R_far (p := ⟨gb225, 0, none⟩) (Kd.R_types HO238.out BK225.out (by decide)) (fun _ hk => hk.2) (.int .i64 t233)) (fun _ hk => hk.2) (.int .i64 t234)) (fun _ hk => hk.2) (.int .i64 t235)) (fun _ hk => hk.2) (.slice Ao26 t236.length co26)) (fun _ hk => trivial), q75_⟩
     ·rw [if_neg c7] at H
      exact absurd H (by simp)
    ·rw [if_neg c6] at H
     exact absurd H (by simp)
   ·rw [if_neg c5] at H
    exact absurd H (by simp)
  ·rw [if_neg c4] at H
   exact absurd H (by simp)
 ·rw [if_neg c3] at H
  have c3b0 : (t226 == 0) = false := beq_eq_false_iff_ne.mpr c3; have c3b1 : (t226 != 0) = true := bne_iff_ne.mpr c3; simp only [Option.some.injEq, Prod.mk.injEq] at H; obtain ⟨rfl, rfl, rfl, rfl, rfl⟩ := H
  go_enter Try.func10, Try.ntmps10
  go_wp2_with (first | ((with_reducible refine gate_dst (N := 1) rfl ?_); refine box_event ?hg (N := 1) ?hd (cs := #[.int .i64 a0_0, .int .i64 a0_1, .int .i64 a0_2, .slice A0_3 l0_3.length c0_3]) (t := 26) ?hr ?_; (case hd => rfl); (case hg => rfl); (case hr => first | (go_simp; done) | (go_simp; rfl)); intro gb224 hg w28 hbox hb; have n0_ := am_ (below_step q120_ hb); have n1_ := am_ (hbox); have n2_ := am_ ((q88_ : w.heap.size ≤ gb224)); have n3_ := am_ ((q88_ : w.heap.size ≤ gb224)); clear HB; have HB := n0_; have BK224 := n1_; have GW224 := n2_; have GE224 := n3_; clear n0_ n1_ n2_ n3_; clear hb hbox hg) | ((with_reducible refine gate_dst (N := 2) rfl ?_); refine box_event ?hg (N := 2) ?hd (cs := #[.int .i64 0, .int .i64 0, .int .i64 0, .slice none 0 0]) (t := 26) ?hr ?_; (case hd => rfl); (case hg => rfl); (case hr => first | (go_simp; done) | (go_simp; rfl)); intro gb225 hg w29 hbox hb; have n0_ := am_ (blk_below (g := gb224) (o := .cells #[.int .i64 a0_0, .int .i64 a0_1, .int .i64 a0_2, .slice A0_3 l0_3.length c0_3] 26 (0, 0)) q140_ hb); have n1_ := am_ (below_step q98_ hb); have n2_ := am_ (hbox); have n3_ := am_ ((q67_ : w.heap.size ≤ gb225)); have n4_ := am_ ((q67_ : w.heap.size ≤ gb225)); have n5_ := am_ ((by rw [hg]; exact Nat.ne_of_lt (blk_lt (g := gb224) (o := .cells #[.int .i64 a0_0, .int .i64 a0_1, .int .i64 a0_2, .slice A0_3 l0_3.length c0_3] 26 (0, 0)) q140_) : gb224 ≠ gb225)); have n6_ := am_ ((by rw [hg]; exact Nat.ne_of_gt (blk_lt (g := gb224) (o := .cells #[.int .i64 a0_0, .int .i64 a0_1, .int .i64 a0_2, .slice A0_3 l0_3.length c0_3] 26 (0, 0)) q140_) : gb225 ≠ gb224)); clear BK224 HB; have BK224 := n0_; have HB := n1_; have BK225 := n2_; have GW225 := n3_; have GE225 := n4_; have NB224_225 := n5_; have NB225_224 := n6_; clear n0_ n1_ n2_ n3_ n4_ n5_ n6_; clear hb hbox hg; have hnb30 := NB224_225.out; have hnc30 := NB225_224.out; have hcz31_0 : w29.cell? ⟨gb224, 0, none⟩ = some (.int .i64 a0_0) := (blk_cell BK224.out 0).trans rfl; have hcz31_1 : w29.cell? ⟨gb224, 1, none⟩ = some (.int .i64 a0_1) := (blk_cell BK224.out 1).trans rfl; have hcz31_2 : w29.cell? ⟨gb224, 2, none⟩ = some (.int .i64 a0_2) := (blk_cell BK224.out 2).trans rfl; have hcz31_3 : w29.cell? ⟨gb224, 3, none⟩ = some (.slice A0_3 l0_3.length c0_3) := (blk_cell BK224.out 3).trans rfl; have hfz31_0 := blk_frozen BK224.out 0; have hfz31_1 := blk_frozen BK224.out 1; have hfz31_2 := blk_frozen BK224.out 2; have hfz31_3 := blk_frozen BK224.out 3) | ((with_reducible refine gate_callee (f := 29) rfl ?_); refine goesL_ (some 6) rfl rfl Try.func29 (by kernel_rfl) rfl #[.agg #[.int .i64 a0_0, .int .i64 a0_1, .int .i64 a0_2, .slice A0_3 l0_3.length c0_3]] rfl q117_ ?_; (with_reducible refine (integral_check.calls k a0_0 a0_1 a0_2 _ _ l0_3 t226 _ ?side1 ?side2 A2.out).mono ?_); (case side1 => repeat (first | exact (Kd.C_below HR0_3.out HB.out) | (with_reducible refine Kd.C_alloc ?_ _) | (with_reducible refine Kd.C_drewN ?_ _) | (with_reducible refine Kd.C_drew ?_))); (case side2 => exact HC0_3.out); rintro e w32 ⟨rfl, hb⟩; refine ⟨_, rfl, ?_⟩; have n0_ := am_ (blk_below (g := gb224) (o := .cells #[.int .i64 a0_0, .int .i64 a0_1, .int .i64 a0_2, .slice A0_3 l0_3.length c0_3] 26 (0, 0)) q140_ hb); have n1_ := am_ (blk_below (g := gb225) (o := .cells #[.int .i64 0, .int .i64 0, .int .i64 0, .slice none 0 0] 26 (0, 0)) q141_ hb); have n2_ := am_ (below_step q75_ hb); clear BK224 BK225 HB; have BK224 := n0_; have BK225 := n1_; have HB := n2_; clear n0_ n1_ n2_; (try clear hb); (try clear hb2); (try clear hk); (try clear hi); have hcz33_0 : w32.cell? ⟨gb225, 0, none⟩ = some (.int .i64 0) := (blk_cell BK225.out 0).trans rfl; have hcz33_1 : w32.cell? ⟨gb225, 1, none⟩ = some (.int .i64 0) := (blk_cell BK225.out 1).trans rfl; have hcz33_2 : w32.cell? ⟨gb225, 2, none⟩ = some (.int .i64 0) := (blk_cell BK225.out 2).trans rfl; have hcz33_3 : w32.cell? ⟨gb225, 3, none⟩ = some (.slice none 0 0) := (blk_cell BK225.out 3).trans rfl; have hfz33_0 := blk_frozen BK225.out 0; have hfz33_1 := blk_frozen BK225.out 1; have hfz33_2 := blk_frozen BK225.out 2; have hfz33_3 := blk_frozen BK225.out 3))
  refine bodyPost_ret (results_ct rfl _ _ gb225 26 #[.int .i64 0, .int .i64 0, .int .i64 0, .slice none 0 0] (0, 0) _ rfl (by (with_reducible repeat (first | refine blk_drewN ?_ _ | refine blk_drew ?_ | refine blk_alloc ?_ _)); refine blk_put (cs := #[.int .i64 0, .int .i64 0, .int .i64 0, .slice none 0 0]) ?_ 3 _ rfl; (with_reducible repeat (first | refine blk_drewN ?_ _ | refine blk_drew ?_ | refine blk_alloc ?_ _)); refine blk_put (cs := #[.int .i64 0, .int .i64 0, .int .i64 0, .slice none 0 0]) ?_ 2 _ rfl; (with_reducible repeat (first | refine blk_drewN ?_ _ | refine blk_drew ?_ | refine blk_alloc ?_ _)); refine blk_put (cs := #[.int .i64 0, .int .i64 0, .int .i64 0, .slice none 0 0]) ?_ 1 _ rfl; (with_reducible repeat (first | refine blk_drewN ?_ _ | refine blk_drew ?_ | refine blk_alloc ?_ _)); refine blk_put (cs := #[.int .i64 0, .int .i64 0, .int .i64 0, .slice none 0 0]) ?_ 0 _ rfl; (with_reducible repeat (first | refine blk_drewN ?_ _ | refine blk_drew ?_ | refine blk_alloc ?_ _)); exact BK225.out) Try.underlying26 rfl (by kernel_rfl)) rfl ?_; exact ⟨_, q179_, q116_, q75_⟩


def integral_Sum_1.f (a0 : Int) (a1 : Int) (a2_0 : Int) (a2_1 : Int) (a2_2 : Int) (l2_3 : List Int) : Option (Int) := if a0 = 0 then (some 0) else (if a1 = 0 then (some 0) else (if 0 ≤ (wrap64 ((wrap64 ((wrap64 ((wrap64 (a1 - 1)) * a2_0)) + a0)) - 1)) then (if (wrap64 ((wrap64 ((wrap64 ((wrap64 (a1 - 1)) * a2_0)) + a0)) - 1)) < (l2_3.length : Int) then (some (rd l2_3 (wrap64 ((wrap64 ((wrap64 ((wrap64 (a1 - 1)) * a2_0)) + a0)) - 1)))) else (none)) else (none)))
set_option maxHeartbeats 8000000 in
set_option maxRecDepth 100000 in
theorem integral_Sum_1.calls (a0 : Int) (a1 : Int) (B2 : Nat) (a2_0 : Int) (a2_1 : Int) (a2_2 : Int) (A2_3 : Option Addr) (c2_3 : Nat) (l2_3 : List Int) (r : Int) (w : World) (hr2_3 : Kd.C (Kd.int .i64) w A2_3 l2_3.length l2_3) (hc2_3 : l2_3.length ≤ c2_3) (hb2 : w.heap[B2]? = some (.cells #[.int .i64 a2_0, .int .i64 a2_1, .int .i64 a2_2, .slice A2_3 l2_3.length c2_3] 26 (0, 0))) (h : integral_Sum_1.f a0 a1 a2_0 a2_1 a2_2 l2_3 = some r) :
  Calls Try.prog 34 #[.int .i64 a0, .int .i64 a1, .pointer (some ⟨B2, 0, none⟩)] w fun e w' => e = .returned (.int .i64 r) ∧ Below w.heap.size w w' := by
 have HR2_3 := am_ hr2_3; have HC2_3 := am_ hc2_3; clear hr2_3 hc2_3; have BK2 := am_ hb2; clear hb2; have HB := am_ (Below.refl w.heap.size w); have H : (if a0 = 0 then (some 0) else (if a1 = 0 then (some 0) else (if 0 ≤ (wrap64 ((wrap64 ((wrap64 ((wrap64 (a1 - 1)) * a2_0)) + a0)) - 1)) then (if (wrap64 ((wrap64 ((wrap64 ((wrap64 (a1 - 1)) * a2_0)) + a0)) - 1)) < (l2_3.length : Int) then (some (rd l2_3 (wrap64 ((wrap64 ((wrap64 ((wrap64 (a1 - 1)) * a2_0)) + a0)) - 1)))) else (none)) else (none)))) = some r := h; clear h
 by_cases c4 : a0 = 0
 ·rw [if_pos c4] at H
  have c4b0 : (a0 == 0) = true := beq_iff_eq.mpr c4; have c4b1 : (a0 != 0) = false := bne_eq_false_iff_eq.mpr c4; clear c4; obtain rfl := Option.some.inj H
  go_enter Try.func34, Try.ntmps34
  go_wp2
  go_ret
  exact ⟨q179_, q112_⟩
 ·rw [if_neg c4] at H
  have c4b0 : (a0 == 0) = false := beq_eq_false_iff_ne.mpr c4; have c4b1 : (a0 != 0) = true := bne_iff_ne.mpr c4
  by_cases c5 : a1 = 0
  ·rw [if_pos c5] at H
   have c5b0 : (a1 == 0) = true := beq_iff_eq.mpr c5; have c5b1 : (a1 != 0) = false := bne_eq_false_iff_eq.mpr c5; clear c5; obtain rfl := Option.some.inj H
   go_enter Try.func34, Try.ntmps34
   go_wp2
   go_ret
   exact ⟨q179_, q112_⟩
  ·rw [if_neg c5] at H
   have c5b0 : (a1 == 0) = false := beq_eq_false_iff_ne.mpr c5; have c5b1 : (a1 != 0) = true := bne_iff_ne.mpr c5; obtain ⟨ji6, hji6⟩ : ∃ j_ : Int, (wrap64 ((wrap64 ((wrap64 ((wrap64 (a1 - 1)) * a2_0)) + a0)) - 1)) = j_ := ⟨_, rfl⟩; replace H : (if 0 ≤ (ji6) then (if (ji6) < (l2_3.length : Int) then (some (rd l2_3 (ji6))) else (none)) else (none)) = some r := by first | (rw [hji6] at H; exact H) | (simp only [hji6] at H ⊢; exact H)
   have hji6w : (IntKind.i64.wrap ((wrap64 ((wrap64 ((wrap64 (a1 - 1)) * a2_0)) + a0)) - 1)) = ji6 := (i64_w _).trans hji6
   by_cases c7 : 0 ≤ (ji6)
   ·rw [if_pos c7] at H
    have c7b0 : decide (0 ≤ (ji6)) = true := decide_eq_true c7; clear c7
    by_cases c8 : (ji6) < (l2_3.length : Int)
    ·rw [if_pos c8] at H
     have c8b0 : decide ((ji6) < (l2_3.length : Int)) = true := decide_eq_true c8; clear c8; obtain rfl := Option.some.inj H; have hcz9_0 : w.cell? ⟨B2, 0, none⟩ = some (.int .i64 a2_0) := (blk_cell BK2.out 0).trans rfl; have hcz9_1 : w.cell? ⟨B2, 1, none⟩ = some (.int .i64 a2_1) := (blk_cell BK2.out 1).trans rfl; have hcz9_2 : w.cell? ⟨B2, 2, none⟩ = some (.int .i64 a2_2) := (blk_cell BK2.out 2).trans rfl; have hcz9_3 : w.cell? ⟨B2, 3, none⟩ = some (.slice A2_3 l2_3.length c2_3) := (blk_cell BK2.out 3).trans rfl; have hfz9_0 := blk_frozen BK2.out 0; have hfz9_1 := blk_frozen BK2.out 1; have hfz9_2 := blk_frozen BK2.out 2; have hfz9_3 := blk_frozen BK2.out 3; have p240 : 0 ≤ ((ji6) : Int) := of_decide_eq_true q183_; have q240 : (ji6) < (l2_3.length : Int) := of_decide_eq_true q183_; obtain ⟨ad240, e240, hx240_0⟩ := Kd.at_int HR2_3.out (ji6) p240 q240; cases e240; replace p240 := eq_true p240; replace q240 := eq_true q240
     go_enter Try.func34, Try.ntmps34
     go_wp2
     go_ret
     exact ⟨q87_, q112_⟩
    ·rw [if_neg c8] at H
     exact absurd H (by simp)
   ·rw [if_neg c7] at H
    exact absurd H (by simp)

end Go.Proofs.Ytkipnpgcpohlcaa.PIntegralTiles
