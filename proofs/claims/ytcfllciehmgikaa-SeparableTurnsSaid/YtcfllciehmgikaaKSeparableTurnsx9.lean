-- Written by a program of the session (wip/tools/pack.py): the printed texts, pruned; checked by Lean.
import Derived.Test.YtcfllciehmgikaaKSeparableTurnsa
import Derived.Test.YtcfllciehmgikaaKSeparableTurnsx0
import Derived.Test.YtcfllciehmgikaaKSeparableTurnsx2
namespace Go.Proofs.Ytcfllciehmgikaa.PSeparableTurns
open Go.RowKit Go.Proofs.YtcfllciehmgikaaW.PrintWords Go.Proofs.YtcfllciehmgikaaW.PrintLast Go.Proofs.YtcfllciehmgikaaW.PrintMore
attribute [local go_sem] max2_int min2_int max_two min_two max_three min_three max_four min_four   -- for this text's walks alone
set_option linter.unusedVariables false
set_option linter.unusedSimpArgs false
def tilefarmgen_Tape_Sized.l0 : Nat → Int → List Int → Int → Int → Int → Int → List Int → Option (Int × Int × Int × List Int × Int)
  | 0, _, _, _, _, _, _, _ => none
  | k + 1, x8, x1000, x1001, x247000, x247001, x247002, x247003 => if x8 < (x247003.length : Int) then ((tilefarmgen_Tape_Next.f x1000 x1001 (wrap64 (x247002 + 1))).bind fun bt247 => ((tilefarmgen_Tape_Next.f x1000 bt247.2 (wrap64 (x247002 + 1))).bind fun bt249 => ((tilefarmgen_Tape_Pick.f x1000 bt249.2 (([bt247.1, bt249.1, x247002, 0] : List Int))).bind fun bt254 => (if 0 ≤ x8 then (tilefarmgen_Tape_Sized.l0 k (wrap64 (x8 + 1)) x1000 bt254.2 x247000 x247001 x247002 (x247003.set (x8 : Int).toNat bt254.1)) else (none))))) else (some (x247000, x247001, x247002, x247003, x1001))
def tilefarmgen_Tape_Sized.f (k : Nat) (s0_0 : List Int) (s0_1 : Int) (a1 : Int) (a2 : Int) : Option (Int × Int × Int × List Int × Int) := (tilefarmgen_Tape_Pick.f s0_0 s0_1 (([255, 255, 65535, 1, 7] : List Int))).bind fun bt241 => (if 0 ≤ (wrap64 (a1 * a2)) then (if (wrap64 (a1 * a2) : Int).toNat ≤ 35184372088832 then (tilefarmgen_Tape_Sized.l0 k 0 s0_0 bt241.2 a1 a2 bt241.1 (List.replicate (wrap64 (a1 * a2) : Int).toNat 0)) else (none)) else (none))
theorem tilefarmgen_Tape_Sized.mono_l : ∀ k, (∀ y0 y1 y2 y3 y4 y5 y6, LeO (tilefarmgen_Tape_Sized.l0 k y0 y1 y2 y3 y4 y5 y6) (tilefarmgen_Tape_Sized.l0 (k + 1) y0 y1 y2 y3 y4 y5 y6))
  | 0 => fun _ _ _ _ _ _ _ r h => by simp [tilefarmgen_Tape_Sized.l0] at h
  | k + 1 => by
    have ih0 := tilefarmgen_Tape_Sized.mono_l k
    · intro y0 y1 y2 y3 y4 y5 y6
      unfold tilefarmgen_Tape_Sized.l0
      repeat' first
      | (with_reducible exact ih0 _ _ _ _ _ _ _)
      | (with_reducible exact LeO.refl _)
      | (with_reducible exact LeO.none _)
      | (with_reducible refine LeO.ite ?_ ?_)
      | (with_reducible refine LeO.bind ?_ (fun _ => ?_))
      | exact ih0 _ _ _ _ _ _ _
      | exact LeO.none _
      | refine LeO.ite ?_ ?_
      | refine LeO.bind ?_ (fun _ => ?_)
theorem tilefarmgen_Tape_Sized.mono : ∀ a0 a1 a2 a3 k, LeO (tilefarmgen_Tape_Sized.f k a0 a1 a2 a3) (tilefarmgen_Tape_Sized.f (k + 1) a0 a1 a2 a3) := by
  intro a0 a1 a2 a3 k
  have ih0 := tilefarmgen_Tape_Sized.mono_l k
  unfold tilefarmgen_Tape_Sized.f
  repeat' first
      | (with_reducible exact ih0 _ _ _ _ _ _ _)
      | (with_reducible exact LeO.refl _)
      | (with_reducible exact LeO.none _)
      | (with_reducible refine LeO.ite ?_ ?_)
      | (with_reducible refine LeO.bind ?_ (fun _ => ?_))
      | exact ih0 _ _ _ _ _ _ _
      | exact LeO.none _
      | refine LeO.ite ?_ ?_
      | refine LeO.bind ?_ (fun _ => ?_)
def tilefarmgen_Tape_Sized.T1 : Bool × List (List Nat × List Nat) := (true, [([], []), ([], []), ([], []), ([], []), ([2, 3], [2, 3]), ([], []), ([], []), ([5, 6], [5, 6]), ([7, 7], [7]), ([0, 1, 4, 8], [0, 1, 4, 8]), ([], []), ([10, 9, 4, 0, 1, 2, 3, 4, 5, 6, 7, 8, 9, 10], [9, 10])])
def tilefarmgen_Tape_Sized.B1 : List Nat := [0, 0, 0, 0, 12, 0, 0, 96, 224, 511, 0, 2047]
theorem tilefarmgen_Tape_Sized.tab1 : rtab .any (opsOf Try.f38 1) = tilefarmgen_Tape_Sized.T1 := by kernel_rfl
theorem tilefarmgen_Tape_Sized.bits1 : waitsOk tilefarmgen_Tape_Sized.T1.2 tilefarmgen_Tape_Sized.B1 = true := by kernel_rfl
def tilefarmgen_Tape_Sized.T5 : Bool × List (List Nat × List Nat) := (true, [([], []), ([0], [0]), ([], []), ([], []), ([], []), ([], []), ([5], [5]), ([6], [6]), ([4, 7], [4, 7]), ([], []), ([], []), ([10], [10]), ([11], [11]), ([9, 12, 8], [9, 12]), ([], []), ([14], [14]), ([8, 13, 15], [8, 13, 15]), ([3, 16, 13], [3, 16]), ([1, 2, 0, 1, 2, 3, 4, 5, 6, 7, 8, 9, 10, 11, 12, 13, 14, 15, 16, 17], [1, 2]), ([18, 17, 17, 0, 1, 2, 3, 4, 5, 6, 7, 8, 9, 10, 11, 12, 13, 14, 15, 16, 17], [17, 18])])
def tilefarmgen_Tape_Sized.B5 : List Nat := [0, 1, 0, 0, 0, 0, 32, 96, 240, 0, 0, 1024, 3072, 8176, 0, 16384, 65520, 131064, 262143, 524287]
theorem tilefarmgen_Tape_Sized.tab5 : rtab .any (opsOf Try.f38 5) = tilefarmgen_Tape_Sized.T5 := by kernel_rfl
theorem tilefarmgen_Tape_Sized.bits5 : waitsOk tilefarmgen_Tape_Sized.T5.2 tilefarmgen_Tape_Sized.B5 = true := by kernel_rfl
set_option maxHeartbeats 8000000 in
set_option maxRecDepth 100000 in
theorem tilefarmgen_Tape_Sized.calls (k : Nat) (g : Nat) (s0_0 : List Int) (s0_1 : Int) (a1 : Int) (a2 : Int) (r1 : Int) (r2 : Int) (r3 : Int) (r4 : List Int) (r5 : Int) (w0 w : World) (hI : IsS53 w0 w g s0_0 s0_1) (hB : Below w0.heap.size w0 w) (h : tilefarmgen_Tape_Sized.f k s0_0 s0_1 a1 a2 = some (r1, r2, r3, r4, r5)) :
    Calls Try.prog 38 #[.pointer (some ⟨g, 0, none⟩), .int .i64 a1, .int .i64 a2] w fun e w' => ∃ v3_ : Value, e = .returned (.agg #[.int .i64 r1, .int .i64 r2, .int .i64 r3, v3_]) ∧ Kd.R (Kd.int .i64) 3 w' w.heap.size (fun _ => True) v3_ r4 ∧ IsS53 w0 w' g s0_0 r5 ∧ Below w0.heap.size w0 w' ∧ KeepBut w w' g none := by
  have hu35 := Try.underlying35
  have HI0 := Aside0.mk hI
  have HK := Aside0.mk (KeepBut.refl w g none)
  have HL := Aside0.mk hB.size
  clear hI
  have HW0 := Aside0.mk hB.size
  have HB := Aside0.mk hB
  clear hB
  have H : ((tilefarmgen_Tape_Pick.f s0_0 s0_1 (([255, 255, 65535, 1, 7] : List Int))).bind fun bt241 => (if 0 ≤ (wrap64 (a1 * a2)) then (if (wrap64 (a1 * a2) : Int).toNat ≤ 35184372088832 then (tilefarmgen_Tape_Sized.l0 k 0 s0_0 bt241.2 a1 a2 bt241.1 (List.replicate (wrap64 (a1 * a2) : Int).toNat 0)) else (none)) else (none))) = some (r1, r2, r3, r4, r5) := h
  clear h
  obtain ⟨y238, hy238⟩ : ∃ y_ : List Int, y_ = (([255, 255, 65535, 1, 7] : List Int)) := ⟨_, rfl⟩
  replace H : ((tilefarmgen_Tape_Pick.f s0_0 s0_1 y238).bind fun bt241 => (if 0 ≤ (wrap64 (a1 * a2)) then (if (wrap64 (a1 * a2) : Int).toNat ≤ 35184372088832 then (tilefarmgen_Tape_Sized.l0 k 0 s0_0 bt241.2 a1 a2 bt241.1 (List.replicate (wrap64 (a1 * a2) : Int).toNat 0)) else (none)) else (none))) = some (r1, r2, r3, r4, r5) := by first | (rw [hy238]; with_reducible exact H) | (have H2_ := (Option.bind_some _ _).symm.trans H; rw [hy238]; with_reducible exact H2_) | (have H2_ := (Option.bind_some _ _).symm.trans H; with_reducible exact H2_) | with_reducible exact H | (rw [hy238]; exact H) | exact H
  have Ny238 := Aside0.mk hy238
  clear hy238
  replace H := Option.bind_eq_some_iff.mp H
  obtain ⟨⟨t241, t242⟩, A40, H⟩ := H
  replace H : (if 0 ≤ (wrap64 (a1 * a2)) then (if (wrap64 (a1 * a2) : Int).toNat ≤ 35184372088832 then (tilefarmgen_Tape_Sized.l0 k 0 s0_0 t242 a1 a2 t241 (List.replicate (wrap64 (a1 * a2) : Int).toNat 0)) else (none)) else (none)) = some (r1, r2, r3, r4, r5) := H
  have A4 := Aside0.mk A40
  clear A40
  obtain ⟨ji5, hji5⟩ : ∃ j_ : Int, (wrap64 (a1 * a2)) = j_ := ⟨_, rfl⟩
  replace H : (if 0 ≤ (ji5) then (if (ji5 : Int).toNat ≤ 35184372088832 then (tilefarmgen_Tape_Sized.l0 k 0 s0_0 t242 a1 a2 t241 (List.replicate (ji5 : Int).toNat 0)) else (none)) else (none)) = some (r1, r2, r3, r4, r5) := by first | (rw [hji5] at H; exact H) | (simp only [hji5] at H ⊢; exact H)
  (try rw [hji5] at A4)
  have hji5w : (IntKind.i64.wrap (a1 * a2)) = ji5 := (i64_w _).trans hji5
  by_cases c6 : 0 ≤ (ji5)
  · rw [if_pos c6] at H
    have c6b0 := eq_true c6
    have c6b1 : decide (0 ≤ (ji5)) = true := decide_eq_true c6
    clear c6
    by_cases c7 : (ji5 : Int).toNat ≤ 35184372088832
    · rw [if_pos c7] at H
      have c7b0 := eq_true c7
      have c7b1 : decide ((ji5 : Int).toNat ≤ 35184372088832) = true := decide_eq_true c7
      clear c7
      obtain ⟨y243, hy243⟩ : ∃ y_ : List Int, y_ = (List.replicate (ji5 : Int).toNat 0) := ⟨_, rfl⟩
      replace H : (tilefarmgen_Tape_Sized.l0 k 0 s0_0 t242 a1 a2 t241 y243) = some (r1, r2, r3, r4, r5) := by first | (rw [hy243]; with_reducible exact H) | (have H2_ := (Option.bind_some _ _).symm.trans H; rw [hy243]; with_reducible exact H2_) | (have H2_ := (Option.bind_some _ _).symm.trans H; with_reducible exact H2_) | with_reducible exact H | (rw [hy243]; exact H) | exact H
      have Ny243 := Aside0.mk hy243
      clear hy243
      have H' := Aside0.mk H
      clear H
      go_enter Try.func38, Try.ntmps38
      try go_wp2_with (first | ((with_reducible refine gate_dst (N := 6) rfl ?_); refine box_event ?hg (N := 6) ?hd (cs := #[.int .i64 0, .int .i64 0, .int .i64 0, .slice none 0 0]) (t := 35) ?hr ?_; (case hd => rfl); (case hg => rfl); (case hr => first | (go_simp; done) | (go_simp; rfl)); intro gb237 hg w8 hbox hb; have n0_ := Aside0.mk (IsS53.below q107_ hb); have n1_ := Aside0.mk (KeepBut.trans q108_ (KeepBut.of_below hb g none) (.inl rfl)); have n2_ := Aside0.mk (below_step q93_ hb); have n3_ := Aside0.mk (hbox); have n4_ := Aside0.mk ((q67_ : w.heap.size ≤ gb237)); have n5_ := Aside0.mk ((Nat.le_trans HW0.out (q67_ : w.heap.size ≤ gb237) : w0.heap.size ≤ gb237)); have n6_ := Aside0.mk ((q57_ : g ≠ gb237)); have n7_ := Aside0.mk ((q58_ : gb237 ≠ g)); clear HI0; clear HK; clear HB; have HI0 := n0_; have HK := n1_; have HB := n2_; have BK237 := n3_; have GW237 := n4_; have GE237 := n5_; have NB0_237 := n6_; have NB237_0 := n7_; clear n0_ n1_ n2_ n3_ n4_ n5_ n6_ n7_; clear hb hbox hg))
      have n0_ := Aside0.mk (blk_drew BK237.out)
      have n1_ := Aside0.mk (IsS53.drew HI0.out)
      have n2_ := Aside0.mk (keep_drew HK.out)
      have n3_ := Aside0.mk (below_drew1 HB.out)
      clear BK237
      clear HI0
      clear HK
      clear HB
      have BK237 := n0_
      have HI0 := n1_
      have HK := n2_
      have HB := n3_
      clear n0_ n1_ n2_ n3_
      refine start_ (n := 12) (S := fun w' => True) (ds := []) #[false, false, false, false, false, false, false, false, false, false, false, false] (by kernel_rfl) rfl rfl trivial (fun hHeld => ?_); refine with_tabW tilefarmgen_Tape_Sized.tab1 tilefarmgen_Tape_Sized.bits1 (fun HT_ HW_ => ?_)
      generalize w8.drew = w9 at BK237 HI0 HK HB hHeld ⊢
      refine pure_ (i := 0) (N := some 9) (v := ?_) (a' := ?_) #[true, false, false, false, false, false, false, false, false, false, false, false] rfl rfl (any_of HT_.out (by kernel_rfl)) (fun _ _ _ h => h) (Or.inl ⟨by rfl, ?_⟩) ?_ ?_
      rotate_left
      · intro w'
        go_simp
        with_reducible rfl
      rotate_left
      · simp only [Act.put, List.setIfInBounds_toArray, List.set_cons_zero, List.set_cons_succ, i64_w, i32_w]
        rfl
      refine pure_ (i := 1) (N := some 10) (v := ?_) (a' := ?_) #[true, true, false, false, false, false, false, false, false, false, false, false] rfl rfl (any_of HT_.out (by kernel_rfl)) (fun _ _ _ h => h) (Or.inl ⟨by rfl, ?_⟩) ?_ ?_
      rotate_left
      · intro w'
        go_simp
        with_reducible rfl
      rotate_left
      · simp only [Act.put, List.setIfInBounds_toArray, List.set_cons_zero, List.set_cons_succ, i64_w, i32_w]
        rfl
      refine pure_ (i := 2) (N := some 11) (v := ?_) (a' := ?_) #[true, true, true, false, false, false, false, false, false, false, false, false] rfl rfl (any_of HT_.out (by kernel_rfl)) (fun _ _ _ h => h) (Or.inl ⟨by rfl, ?_⟩) ?_ ?_
      rotate_left
      · intro w'
        go_simp
        with_reducible rfl
      rotate_left
      · simp only [Act.put, List.setIfInBounds_toArray, List.set_cons_zero, List.set_cons_succ, i64_w, i32_w]
        rfl
      refine pure_ (i := 5) (N := some 14) (v := ?_) (a' := ?_) #[true, true, true, false, false, true, false, false, false, false, false, false] rfl rfl (any_of HT_.out (by kernel_rfl)) (fun _ _ _ h => h) (Or.inl ⟨by rfl, ?_⟩) ?_ ?_
      rotate_left
      · intro w'
        go_simp
        with_reducible rfl
      rotate_left
      · simp only [Act.put, List.setIfInBounds_toArray, List.set_cons_zero, List.set_cons_succ, i64_w, i32_w]
        rfl
      refine pure_ (i := 6) (N := some 15) (v := ?_) (a' := ?_) #[true, true, true, false, false, true, true, false, false, false, false, false] rfl rfl (any_of HT_.out (by kernel_rfl)) (fun _ _ _ h => h) (Or.inl ⟨by rfl, ?_⟩) ?_ ?_
      rotate_left
      · intro w'
        go_simp
        with_reducible rfl
      rotate_left
      · simp only [Act.put, List.setIfInBounds_toArray, List.set_cons_zero, List.set_cons_succ, i64_w, i32_w]
        rfl
      refine pure_ (i := 7) (N := some 16) (v := ?_) (a' := ?_) #[true, true, true, false, false, true, true, true, false, false, false, false] rfl rfl (any_of HT_.out (by kernel_rfl)) (fun _ _ _ h => h) (Or.inl ⟨by rfl, ?_⟩) ?_ ?_
      rotate_left
      · intro w'
        go_simp
        with_reducible rfl
      rotate_left
      · simp only [Act.put, List.setIfInBounds_toArray, List.set_cons_zero, List.set_cons_succ, i64_w, i32_w]
        rfl
      refine join_ (σ := Value × Value × Nat) 1 #[true, true, true, true, true, true, true, true, true, true, true, false] (fun s_ => [(12, s_.1), (13, .int .i64 t241), (17, s_.2.1), (7, .pointer (some ⟨s_.2.2, 0, none⟩)), (18, .agg #[.int .i64 a1, .int .i64 a2, .int .i64 t241, s_.2.1])]) (fun s_ w' => (Kd.R (Kd.int .i64) 3 w' w.heap.size (fun k_ => some k_ ≠ (s_.2.1 : Value).ownBlock) s_.1 y238) ∧ (Kd.R (Kd.int .i64) 3 w' w.heap.size (fun k_ => some k_ ≠ (s_.1 : Value).ownBlock) s_.2.1 y243) ∧ (w'.heap[gb237]? = some (.cells #[.int .i64 0, .int .i64 0, .int .i64 0, .slice none 0 0] 35 (0, 0))) ∧ (w'.heap[s_.2.2]? = some (.cells #[.int .i64 0, .int .i64 0, .int .i64 0, .slice none 0 0] 35 (0, 0))) ∧ (w.heap.size ≤ s_.2.2) ∧ (w0.heap.size ≤ s_.2.2) ∧ (g ≠ s_.2.2) ∧ (s_.2.2 ≠ g) ∧ (gb237 ≠ s_.2.2) ∧ (s_.2.2 ≠ gb237) ∧ (IsS53 w0 w' g s0_0 t242) ∧ (KeepBut w w' g none) ∧ (Below w0.heap.size w0 w')) ?_ ?_
      rotate_left
      · intro hJ3_4_8_10
        refine join_ (σ := Value × Value) 2 #[true, true, true, true, true, true, true, true, true, true, false, false] (fun s_ => [(12, s_.1), (13, .int .i64 t241), (17, s_.2), (18, .agg #[.int .i64 a1, .int .i64 a2, .int .i64 t241, s_.2])]) (fun s_ w' => (Kd.R (Kd.int .i64) 3 w' w.heap.size (fun k_ => some k_ ≠ (s_.2 : Value).ownBlock) s_.1 y238) ∧ (Kd.R (Kd.int .i64) 3 w' w.heap.size (fun k_ => some k_ ≠ (s_.1 : Value).ownBlock) s_.2 y243) ∧ (w'.heap[gb237]? = some (.cells #[.int .i64 0, .int .i64 0, .int .i64 0, .slice none 0 0] 35 (0, 0))) ∧ (IsS53 w0 w' g s0_0 t242) ∧ (KeepBut w w' g none) ∧ (Below w0.heap.size w0 w')) ?_ ?_
        rotate_left
        · intro hJ3_4_8
          refine join_ (σ := Value × Nat) 3 #[true, true, true, true, true, true, true, true, false, false, true, false] (fun s_ => [(12, s_.1), (13, .int .i64 t241), (7, .pointer (some ⟨s_.2, 0, none⟩))]) (fun s_ w' => (Kd.R (Kd.int .i64) 3 w' w.heap.size (fun _ => True) s_.1 y238) ∧ (w'.heap[gb237]? = some (.cells #[.int .i64 0, .int .i64 0, .int .i64 0, .slice none 0 0] 35 (0, 0))) ∧ (w'.heap[s_.2]? = some (.cells #[.int .i64 0, .int .i64 0, .int .i64 0, .slice none 0 0] 35 (0, 0))) ∧ (w.heap.size ≤ s_.2) ∧ (w0.heap.size ≤ s_.2) ∧ (g ≠ s_.2) ∧ (s_.2 ≠ g) ∧ (gb237 ≠ s_.2) ∧ (s_.2 ≠ gb237) ∧ (IsS53 w0 w' g s0_0 t242) ∧ (KeepBut w w' g none) ∧ (Below w0.heap.size w0 w')) ?_ ?_
          rotate_left
          · intro hJ3_4_10
            refine join_ (σ := Value × Value × Nat) 3 #[true, true, true, true, false, true, true, true, true, false, true, false] (fun s_ => [(12, s_.1), (17, s_.2.1), (7, .pointer (some ⟨s_.2.2, 0, none⟩))]) (fun s_ w' => (Kd.R (Kd.int .i64) 3 w' w.heap.size (fun k_ => some k_ ≠ (s_.2.1 : Value).ownBlock) s_.1 y238) ∧ (Kd.R (Kd.int .i64) 3 w' w.heap.size (fun k_ => some k_ ≠ (s_.1 : Value).ownBlock) s_.2.1 y243) ∧ (w'.heap[gb237]? = some (.cells #[.int .i64 0, .int .i64 0, .int .i64 0, .slice none 0 0] 35 (0, 0))) ∧ (w'.heap[s_.2.2]? = some (.cells #[.int .i64 0, .int .i64 0, .int .i64 0, .slice none 0 0] 35 (0, 0))) ∧ (w.heap.size ≤ s_.2.2) ∧ (w0.heap.size ≤ s_.2.2) ∧ (g ≠ s_.2.2) ∧ (s_.2.2 ≠ g) ∧ (gb237 ≠ s_.2.2) ∧ (s_.2.2 ≠ gb237) ∧ (IsS53 w0 w' g s0_0 s0_1) ∧ (KeepBut w w' g none) ∧ (Below w0.heap.size w0 w')) ?_ ?_
            rotate_left
            · intro hJ3_8_10
              refine join_ (σ := Value) 4 #[true, true, true, true, true, true, true, true, false, false, false, false] (fun s_ => [(12, s_), (13, .int .i64 t241)]) (fun s_ w' => (Kd.R (Kd.int .i64) 3 w' w.heap.size (fun _ => True) s_ y238) ∧ (w'.heap[gb237]? = some (.cells #[.int .i64 0, .int .i64 0, .int .i64 0, .slice none 0 0] 35 (0, 0))) ∧ (IsS53 w0 w' g s0_0 t242) ∧ (KeepBut w w' g none) ∧ (Below w0.heap.size w0 w')) ?_ ?_
              rotate_left
              · intro hJ3_4
                refine join_ (σ := Value × Value) 4 #[true, true, true, true, false, true, true, true, true, false, false, false] (fun s_ => [(12, s_.1), (17, s_.2)]) (fun s_ w' => (Kd.R (Kd.int .i64) 3 w' w.heap.size (fun k_ => some k_ ≠ (s_.2 : Value).ownBlock) s_.1 y238) ∧ (Kd.R (Kd.int .i64) 3 w' w.heap.size (fun k_ => some k_ ≠ (s_.1 : Value).ownBlock) s_.2 y243) ∧ (w'.heap[gb237]? = some (.cells #[.int .i64 0, .int .i64 0, .int .i64 0, .slice none 0 0] 35 (0, 0))) ∧ (IsS53 w0 w' g s0_0 s0_1) ∧ (KeepBut w w' g none) ∧ (Below w0.heap.size w0 w')) ?_ ?_
                rotate_left
                · intro hJ3_8
                  refine join_ (σ := Value × Nat) 4 #[true, true, true, true, false, true, true, true, false, false, true, false] (fun s_ => [(12, s_.1), (7, .pointer (some ⟨s_.2, 0, none⟩))]) (fun s_ w' => (Kd.R (Kd.int .i64) 3 w' w.heap.size (fun _ => True) s_.1 y238) ∧ (w'.heap[gb237]? = some (.cells #[.int .i64 0, .int .i64 0, .int .i64 0, .slice none 0 0] 35 (0, 0))) ∧ (w'.heap[s_.2]? = some (.cells #[.int .i64 0, .int .i64 0, .int .i64 0, .slice none 0 0] 35 (0, 0))) ∧ (w.heap.size ≤ s_.2) ∧ (w0.heap.size ≤ s_.2) ∧ (g ≠ s_.2) ∧ (s_.2 ≠ g) ∧ (gb237 ≠ s_.2) ∧ (s_.2 ≠ gb237) ∧ (IsS53 w0 w' g s0_0 s0_1) ∧ (KeepBut w w' g none) ∧ (Below w0.heap.size w0 w')) ?_ ?_
                  rotate_left
                  · intro hJ3_10
                    refine join_ (σ := Value × Nat) 4 #[true, true, true, false, false, true, true, true, true, false, true, false] (fun s_ => [(17, s_.1), (7, .pointer (some ⟨s_.2, 0, none⟩))]) (fun s_ w' => (Kd.R (Kd.int .i64) 3 w' w.heap.size (fun _ => True) s_.1 y243) ∧ (w'.heap[gb237]? = some (.cells #[.int .i64 0, .int .i64 0, .int .i64 0, .slice none 0 0] 35 (0, 0))) ∧ (w'.heap[s_.2]? = some (.cells #[.int .i64 0, .int .i64 0, .int .i64 0, .slice none 0 0] 35 (0, 0))) ∧ (w.heap.size ≤ s_.2) ∧ (w0.heap.size ≤ s_.2) ∧ (g ≠ s_.2) ∧ (s_.2 ≠ g) ∧ (gb237 ≠ s_.2) ∧ (s_.2 ≠ gb237) ∧ (IsS53 w0 w' g s0_0 s0_1) ∧ (KeepBut w w' g none) ∧ (Below w0.heap.size w0 w')) ?_ ?_
                    rotate_left
                    · intro hJ8_10
                      refine join_ (σ := Value) 5 #[true, true, true, true, false, true, true, true, false, false, false, false] (fun s_ => [(12, s_)]) (fun s_ w' => (Kd.R (Kd.int .i64) 3 w' w.heap.size (fun _ => True) s_ y238) ∧ (w'.heap[gb237]? = some (.cells #[.int .i64 0, .int .i64 0, .int .i64 0, .slice none 0 0] 35 (0, 0))) ∧ (IsS53 w0 w' g s0_0 s0_1) ∧ (KeepBut w w' g none) ∧ (Below w0.heap.size w0 w')) ?_ ?_
                      rotate_left
                      · intro hJ3
                        refine join_ (σ := Value) 5 #[true, true, true, false, false, true, true, true, true, false, false, false] (fun s_ => [(17, s_)]) (fun s_ w' => (Kd.R (Kd.int .i64) 3 w' w.heap.size (fun _ => True) s_ y243) ∧ (w'.heap[gb237]? = some (.cells #[.int .i64 0, .int .i64 0, .int .i64 0, .slice none 0 0] 35 (0, 0))) ∧ (IsS53 w0 w' g s0_0 s0_1) ∧ (KeepBut w w' g none) ∧ (Below w0.heap.size w0 w')) ?_ ?_
                        rotate_left
                        · intro hJ8
                          refine join_ (σ := Nat) 5 #[true, true, true, false, false, true, true, true, false, false, true, false] (fun s_ => [(7, .pointer (some ⟨s_, 0, none⟩))]) (fun s_ w' => (w'.heap[gb237]? = some (.cells #[.int .i64 0, .int .i64 0, .int .i64 0, .slice none 0 0] 35 (0, 0))) ∧ (w'.heap[s_]? = some (.cells #[.int .i64 0, .int .i64 0, .int .i64 0, .slice none 0 0] 35 (0, 0))) ∧ (w.heap.size ≤ s_) ∧ (w0.heap.size ≤ s_) ∧ (g ≠ s_) ∧ (s_ ≠ g) ∧ (gb237 ≠ s_) ∧ (s_ ≠ gb237) ∧ (IsS53 w0 w' g s0_0 s0_1) ∧ (KeepBut w w' g none) ∧ (Below w0.heap.size w0 w')) ?_ ?_
                          rotate_left
                          · intro hJ10
                            refine three_ (i := 3) (j := 8) (k := 10) (Ni := some 12) (Nj := some 17) (Nk := some 7) #[true, true, true, true, false, true, true, true, false, false, false, false] #[true, true, true, false, false, true, true, true, true, false, false, false] #[true, true, true, false, false, true, true, true, false, false, true, false] rfl rfl rfl rfl rfl rfl (three_of HT_.out (by kernel_rfl)) (by decide) (by decide) (by decide) (fun K hK => ?_) (fun K hK => ?_) (fun K hK => ?_)
                            · skip
                              refine Kd.R_lit_step (Kd.int .i64) _ 3 ?hg (N := 12) ?hd (xs := ([255, 255, 65535, 1, 7] : List Int)) (inner := [.int .i64 255, .int .i64 255, .int .i64 65535, .int .i64 1, .int .i64 7]) (ok := fun _ => True) (okp := fun _ => True) ?hr ?hp (fun _ hk => hk) trivial (Below.refl _ _) (Nat.le_refl _) (by simp) ?_; (case hd => rfl); (case hg => rfl); (case hr => first | (go_simp; done) | (go_simp; rfl)); (case hp => exact (Reps.one (show Kd.M (Kd.int .i64) _ _ _ 255 [.int .i64 255] from rfl) (Reps.one (show Kd.M (Kd.int .i64) _ _ _ 255 [.int .i64 255] from rfl) (Reps.one (show Kd.M (Kd.int .i64) _ _ _ 65535 [.int .i64 65535] from rfl) (Reps.one (show Kd.M (Kd.int .i64) _ _ _ 1 [.int .i64 1] from rfl) (Reps.one (show Kd.M (Kd.int .i64) _ _ _ 7 [.int .i64 7] from rfl) (Reps.none _ _)))))))
                              intro v239 w10 ho11 hb hg_ hnew_
                              clear hg_ hnew_
                              (first | rw [← Ny238.out] at ho11 | (simp only [Int.reduceToNat] at ho11; rw [← Ny238.out] at ho11))
                              have n0_ := Aside0.mk (Kd.R_lower ho11 (keep_size (w := w) (g := g) (row := none) q89_))
                              have n1_ := Aside0.mk (IsS53.below q82_ hb)
                              have n2_ := Aside0.mk (blk_below (g := gb237) (o := .cells #[.int .i64 0, .int .i64 0, .int .i64 0, .slice none 0 0] 35 (0, 0)) q141_ hb)
                              have n3_ := Aside0.mk (KeepBut.trans q89_ (KeepBut.of_below hb g none) (.inl rfl))
                              have n4_ := Aside0.mk (below_step q69_ hb)
                              clear HI0
                              clear BK237
                              clear HK
                              clear HB
                              have HO240 := n0_
                              have HI0 := n1_
                              have BK237 := n2_
                              have HK := n3_
                              have HB := n4_
                              clear n0_ n1_ n2_ n3_ n4_
                              clear hb ho11
                              refine hK.out _ _ trivial (fun hHeld => ?_)
                              clear hK K
                              refine norm_ (a' := ?_) ?_ ?_
                              rotate_left
                              · show Act.put _ (some 12) _ = _
                                simp only [Act.put, List.setIfInBounds_toArray, List.set_cons_zero, List.set_cons_succ, i64_w, i32_w]
                                rfl
                              exact norm_ q62_ (hJ3 (v239) _ ⟨q167_, q141_, q82_, q89_, q69_⟩)
                            · skip
                              refine Kd.R_make_step (Kd.int .i64) _ 3 (by rfl) (N := 17) rfl 22 _ _ rfl ji5 rfl rfl Try.underlying22 (.int .i64 0) 8 info3 rfl (by decide) (by omega) 0 (ok := fun _ => True) (okp := fun _ => True) rfl (fun _ hk => hk) trivial (of_decide_eq_true q184_) (Nat.le_trans (Nat.mul_le_mul_right _ (of_decide_eq_true q184_ : ji5.toNat ≤ 35184372088832)) (by omega)) (Below.refl _ _) (Nat.le_refl _) ?_
                              intro v244 w10 ho11 hb hg_ hnew_
                              clear hg_ hnew_
                              (first | rw [← Ny243.out] at ho11 | (simp only [Int.reduceToNat] at ho11; rw [← Ny243.out] at ho11))
                              have n0_ := Aside0.mk (Kd.R_lower ho11 (keep_size (w := w) (g := g) (row := none) q89_))
                              have n1_ := Aside0.mk (IsS53.below q82_ hb)
                              have n2_ := Aside0.mk (blk_below (g := gb237) (o := .cells #[.int .i64 0, .int .i64 0, .int .i64 0, .slice none 0 0] 35 (0, 0)) q141_ hb)
                              have n3_ := Aside0.mk (KeepBut.trans q89_ (KeepBut.of_below hb g none) (.inl rfl))
                              have n4_ := Aside0.mk (below_step q69_ hb)
                              clear HI0
                              clear BK237
                              clear HK
                              clear HB
                              have HO245 := n0_
                              have HI0 := n1_
                              have BK237 := n2_
                              have HK := n3_
                              have HB := n4_
                              clear n0_ n1_ n2_ n3_ n4_
                              clear hb ho11
                              refine hK.out _ _ trivial (fun hHeld => ?_)
                              clear hK K
                              refine norm_ (a' := ?_) ?_ ?_
                              rotate_left
                              · show Act.put _ (some 17) _ = _
                                simp only [Act.put, List.setIfInBounds_toArray, List.set_cons_zero, List.set_cons_succ, i64_w, i32_w]
                                rfl
                              exact norm_ q62_ (hJ8 (v244) _ ⟨q168_, q141_, q82_, q89_, q69_⟩)
                            · skip
                              refine box_step ?hg (N := 7) ?hd (cs := #[.int .i64 0, .int .i64 0, .int .i64 0, .slice none 0 0]) (t := 35) ?hr ?_; (case hd => rfl); (case hg => rfl); (case hr => first | (go_simp; done) | (go_simp; rfl))
                              intro gb246 hg w10 hbox hb
                              have n0_ := Aside0.mk (IsS53.below q82_ hb)
                              have n1_ := Aside0.mk (blk_below (g := gb237) (o := .cells #[.int .i64 0, .int .i64 0, .int .i64 0, .slice none 0 0] 35 (0, 0)) q141_ hb)
                              have n2_ := Aside0.mk (KeepBut.trans q89_ (KeepBut.of_below hb g none) (.inl rfl))
                              have n3_ := Aside0.mk (below_step q69_ hb)
                              have n4_ := Aside0.mk (hbox)
                              have n5_ := Aside0.mk ((q42_ : w.heap.size ≤ gb246))
                              have n6_ := Aside0.mk ((Nat.le_trans HW0.out (q42_ : w.heap.size ≤ gb246) : w0.heap.size ≤ gb246))
                              have n7_ := Aside0.mk ((q38_ : gb237 ≠ gb246))
                              have n8_ := Aside0.mk ((q39_ : gb246 ≠ gb237))
                              have n9_ := Aside0.mk ((q27_ : g ≠ gb246))
                              have n10_ := Aside0.mk ((q28_ : gb246 ≠ g))
                              clear HI0
                              clear BK237
                              clear HK
                              clear HB
                              have HI0 := n0_
                              have BK237 := n1_
                              have HK := n2_
                              have HB := n3_
                              have BK246 := n4_
                              have GW246 := n5_
                              have GE246 := n6_
                              have NB237_246 := n7_
                              have NB246_237 := n8_
                              have NB0_246 := n9_
                              have NB246_0 := n10_
                              clear n0_ n1_ n2_ n3_ n4_ n5_ n6_ n7_ n8_ n9_ n10_
                              clear hb hbox hg
                              refine hK.out _ _ trivial (fun hHeld => ?_)
                              clear hK K
                              refine norm_ (a' := ?_) ?_ ?_
                              rotate_left
                              · show Act.put _ (some 7) _ = _
                                simp only [Act.put, List.setIfInBounds_toArray, List.set_cons_zero, List.set_cons_succ, i64_w, i32_w]
                                rfl
                              exact norm_ q62_ (hJ10 (gb246) _ ⟨q141_, q142_, GW246.out, GE246.out, NB0_246.out, NB246_0.out, NB237_246.out, NB246_237.out, q61_, q63_, q46_⟩)
                          · skip
                            rintro gb246 w11 ⟨h0_, h1_, h2_, h3_, h4_, h5_, h6_, h7_, h8_, h9_, h10_⟩
                            have n0_ : Aside0 (w11.heap[gb237]? = some (.cells #[.int .i64 0, .int .i64 0, .int .i64 0, .slice none 0 0] 35 (0, 0))) := ⟨h0_⟩
                            have n1_ : Aside0 (w11.heap[gb246]? = some (.cells #[.int .i64 0, .int .i64 0, .int .i64 0, .slice none 0 0] 35 (0, 0))) := ⟨h1_⟩
                            have n2_ : Aside0 (w.heap.size ≤ gb246) := ⟨h2_⟩
                            have n3_ : Aside0 (w0.heap.size ≤ gb246) := ⟨h3_⟩
                            have n4_ : Aside0 (g ≠ gb246) := ⟨h4_⟩
                            have n5_ : Aside0 (gb246 ≠ g) := ⟨h5_⟩
                            have n6_ : Aside0 (gb237 ≠ gb246) := ⟨h6_⟩
                            have n7_ : Aside0 (gb246 ≠ gb237) := ⟨h7_⟩
                            have n8_ : Aside0 (IsS53 w0 w11 g s0_0 s0_1) := ⟨h8_⟩
                            have n9_ : Aside0 (KeepBut w w11 g none) := ⟨h9_⟩
                            have n10_ : Aside0 (Below w0.heap.size w0 w11) := ⟨h10_⟩
                            clear BK237
                            clear HI0
                            clear HK
                            clear HB
                            clear h0_ h1_ h2_ h3_ h4_ h5_ h6_ h7_ h8_ h9_ h10_
                            have BK237 := n0_
                            have BK246 := n1_
                            have GW246 := n2_
                            have GE246 := n3_
                            have NB0_246 := n4_
                            have NB246_0 := n5_
                            have NB237_246 := n6_
                            have NB246_237 := n7_
                            have HI0 := n8_
                            have HK := n9_
                            have HB := n10_
                            clear n0_ n1_ n2_ n3_ n4_ n5_ n6_ n7_ n8_ n9_ n10_
                            have hHeld := trivial
                            refine norm_ (a' := ?_) ?_ ?_
                            rotate_left
                            · simp only [putAll, Act.put, List.setIfInBounds_toArray, List.set_cons_zero, List.set_cons_succ]
                              rfl
                            refine two_ (i := 3) (j := 8) (Ni := some 12) (Nj := some 17) #[true, true, true, true, false, true, true, true, false, false, true, false] #[true, true, true, false, false, true, true, true, true, false, true, false] rfl rfl rfl rfl (two_of HT_.out (by kernel_rfl)) (by decide) (by decide) (fun K hK => ?_) (fun K hK => ?_)
                            · skip
                              refine Kd.R_lit_step (Kd.int .i64) _ 3 ?hg (N := 12) ?hd (xs := ([255, 255, 65535, 1, 7] : List Int)) (inner := [.int .i64 255, .int .i64 255, .int .i64 65535, .int .i64 1, .int .i64 7]) (ok := fun _ => True) (okp := fun _ => True) ?hr ?hp (fun _ hk => hk) trivial (Below.refl _ _) (Nat.le_refl _) (by simp) ?_; (case hd => rfl); (case hg => rfl); (case hr => first | (go_simp; done) | (go_simp; rfl)); (case hp => exact (Reps.one (show Kd.M (Kd.int .i64) _ _ _ 255 [.int .i64 255] from rfl) (Reps.one (show Kd.M (Kd.int .i64) _ _ _ 255 [.int .i64 255] from rfl) (Reps.one (show Kd.M (Kd.int .i64) _ _ _ 65535 [.int .i64 65535] from rfl) (Reps.one (show Kd.M (Kd.int .i64) _ _ _ 1 [.int .i64 1] from rfl) (Reps.one (show Kd.M (Kd.int .i64) _ _ _ 7 [.int .i64 7] from rfl) (Reps.none _ _)))))))
                              intro v239 w12 ho13 hb hg_ hnew_
                              clear hg_ hnew_
                              (first | rw [← Ny238.out] at ho13 | (simp only [Int.reduceToNat] at ho13; rw [← Ny238.out] at ho13))
                              have n0_ := Aside0.mk (Kd.R_lower ho13 (keep_size (w := w) (g := g) (row := none) q63_))
                              have n1_ := Aside0.mk (IsS53.below q61_ hb)
                              have n2_ := Aside0.mk (blk_below (g := gb237) (o := .cells #[.int .i64 0, .int .i64 0, .int .i64 0, .slice none 0 0] 35 (0, 0)) q141_ hb)
                              have n3_ := Aside0.mk (blk_below (g := gb246) (o := .cells #[.int .i64 0, .int .i64 0, .int .i64 0, .slice none 0 0] 35 (0, 0)) q142_ hb)
                              have n4_ := Aside0.mk (KeepBut.trans q63_ (KeepBut.of_below hb g none) (.inl rfl))
                              have n5_ := Aside0.mk (below_step q46_ hb)
                              clear HI0
                              clear BK237
                              clear BK246
                              clear HK
                              clear HB
                              have HO240 := n0_
                              have HI0 := n1_
                              have BK237 := n2_
                              have BK246 := n3_
                              have HK := n4_
                              have HB := n5_
                              clear n0_ n1_ n2_ n3_ n4_ n5_
                              clear hb ho13
                              refine hK.out _ _ trivial (fun hHeld => ?_)
                              clear hK K
                              refine norm_ (a' := ?_) ?_ ?_
                              rotate_left
                              · show Act.put _ (some 12) _ = _
                                simp only [Act.put, List.setIfInBounds_toArray, List.set_cons_zero, List.set_cons_succ, i64_w, i32_w]
                                rfl
                              exact norm_ q62_ (hJ3_10 (v239, gb246) _ ⟨q167_, q141_, q142_, GW246.out, GE246.out, NB0_246.out, NB246_0.out, NB237_246.out, NB246_237.out, q61_, q63_, q46_⟩)
                            · skip
                              refine Kd.R_make_step (Kd.int .i64) _ 3 (by rfl) (N := 17) rfl 22 _ _ rfl ji5 rfl rfl Try.underlying22 (.int .i64 0) 8 info3 rfl (by decide) (by omega) 0 (ok := fun _ => True) (okp := fun _ => True) rfl (fun _ hk => hk) trivial (of_decide_eq_true q184_) (Nat.le_trans (Nat.mul_le_mul_right _ (of_decide_eq_true q184_ : ji5.toNat ≤ 35184372088832)) (by omega)) (Below.refl _ _) (Nat.le_refl _) ?_
                              intro v244 w12 ho13 hb hg_ hnew_
                              clear hg_ hnew_
                              (first | rw [← Ny243.out] at ho13 | (simp only [Int.reduceToNat] at ho13; rw [← Ny243.out] at ho13))
                              have n0_ := Aside0.mk (Kd.R_lower ho13 (keep_size (w := w) (g := g) (row := none) q63_))
                              have n1_ := Aside0.mk (IsS53.below q61_ hb)
                              have n2_ := Aside0.mk (blk_below (g := gb237) (o := .cells #[.int .i64 0, .int .i64 0, .int .i64 0, .slice none 0 0] 35 (0, 0)) q141_ hb)
                              have n3_ := Aside0.mk (blk_below (g := gb246) (o := .cells #[.int .i64 0, .int .i64 0, .int .i64 0, .slice none 0 0] 35 (0, 0)) q142_ hb)
                              have n4_ := Aside0.mk (KeepBut.trans q63_ (KeepBut.of_below hb g none) (.inl rfl))
                              have n5_ := Aside0.mk (below_step q46_ hb)
                              clear HI0
                              clear BK237
                              clear BK246
                              clear HK
                              clear HB
                              have HO245 := n0_
                              have HI0 := n1_
                              have BK237 := n2_
                              have BK246 := n3_
                              have HK := n4_
                              have HB := n5_
                              clear n0_ n1_ n2_ n3_ n4_ n5_
                              clear hb ho13
                              refine hK.out _ _ trivial (fun hHeld => ?_)
                              clear hK K
                              refine norm_ (a' := ?_) ?_ ?_
                              rotate_left
                              · show Act.put _ (some 17) _ = _
                                simp only [Act.put, List.setIfInBounds_toArray, List.set_cons_zero, List.set_cons_succ, i64_w, i32_w]
                                rfl
                              exact norm_ q62_ (hJ8_10 (v244, gb246) _ ⟨q168_, q141_, q142_, GW246.out, GE246.out, NB0_246.out, NB246_0.out, NB237_246.out, NB246_237.out, q61_, q63_, q46_⟩)
                        · skip
                          rintro v244 w12 ⟨h0_, h1_, h2_, h3_, h4_⟩
                          have n0_ : Aside0 (Kd.R (Kd.int .i64) 3 w12 w.heap.size (fun _ => True) v244 y243) := ⟨h0_⟩
                          have n1_ : Aside0 (w12.heap[gb237]? = some (.cells #[.int .i64 0, .int .i64 0, .int .i64 0, .slice none 0 0] 35 (0, 0))) := ⟨h1_⟩
                          have n2_ : Aside0 (IsS53 w0 w12 g s0_0 s0_1) := ⟨h2_⟩
                          have n3_ : Aside0 (KeepBut w w12 g none) := ⟨h3_⟩
                          have n4_ : Aside0 (Below w0.heap.size w0 w12) := ⟨h4_⟩
                          clear BK237
                          clear HI0
                          clear HK
                          clear HB
                          clear h0_ h1_ h2_ h3_ h4_
                          have HO245 := n0_
                          have BK237 := n1_
                          have HI0 := n2_
                          have HK := n3_
                          have HB := n4_
                          clear n0_ n1_ n2_ n3_ n4_
                          have hHeld := trivial
                          refine norm_ (a' := ?_) ?_ ?_
                          rotate_left
                          · simp only [putAll, Act.put, List.setIfInBounds_toArray, List.set_cons_zero, List.set_cons_succ]
                            rfl
                          refine two_ (i := 3) (j := 10) (Ni := some 12) (Nj := some 7) #[true, true, true, true, false, true, true, true, true, false, false, false] #[true, true, true, false, false, true, true, true, true, false, true, false] rfl rfl rfl rfl (two_of HT_.out (by kernel_rfl)) (by decide) (by decide) (fun K hK => ?_) (fun K hK => ?_)
                          · skip
                            refine Kd.R_lit_step (Kd.int .i64) _ 3 ?hg (N := 12) ?hd (xs := ([255, 255, 65535, 1, 7] : List Int)) (inner := [.int .i64 255, .int .i64 255, .int .i64 65535, .int .i64 1, .int .i64 7]) (ok := fun _ => True) (okp := fun _ => True) ?hr ?hp (fun _ hk => hk) trivial (Below.refl _ _) (Nat.le_refl _) (by simp) ?_; (case hd => rfl); (case hg => rfl); (case hr => first | (go_simp; done) | (go_simp; rfl)); (case hp => exact (Reps.one (show Kd.M (Kd.int .i64) _ _ _ 255 [.int .i64 255] from rfl) (Reps.one (show Kd.M (Kd.int .i64) _ _ _ 255 [.int .i64 255] from rfl) (Reps.one (show Kd.M (Kd.int .i64) _ _ _ 65535 [.int .i64 65535] from rfl) (Reps.one (show Kd.M (Kd.int .i64) _ _ _ 1 [.int .i64 1] from rfl) (Reps.one (show Kd.M (Kd.int .i64) _ _ _ 7 [.int .i64 7] from rfl) (Reps.none _ _)))))))
                            intro v239 w13 ho14 hb hg_ hnew_
                            clear hg_ hnew_
                            (first | rw [← Ny238.out] at ho14 | (simp only [Int.reduceToNat] at ho14; rw [← Ny238.out] at ho14))
                            have n0_ := Aside0.mk (Kd.R_elder' q168_ (Kd.R_base ho14) hb)
                            have n1_ := Aside0.mk (Kd.R_lower (Kd.R_new' ho14 (Kd.R_lt q168_)) (keep_size (w := w) (g := g) (row := none) q89_))
                            have n2_ := Aside0.mk (IsS53.below q82_ hb)
                            have n3_ := Aside0.mk (blk_below (g := gb237) (o := .cells #[.int .i64 0, .int .i64 0, .int .i64 0, .slice none 0 0] 35 (0, 0)) q141_ hb)
                            have n4_ := Aside0.mk (KeepBut.trans q89_ (KeepBut.of_below hb g none) (.inl rfl))
                            have n5_ := Aside0.mk (below_step q69_ hb)
                            clear HO245
                            clear HI0
                            clear BK237
                            clear HK
                            clear HB
                            have HO245 := n0_
                            have HO240 := n1_
                            have HI0 := n2_
                            have BK237 := n3_
                            have HK := n4_
                            have HB := n5_
                            clear n0_ n1_ n2_ n3_ n4_ n5_
                            clear hb ho14
                            refine hK.out _ _ trivial (fun hHeld => ?_)
                            clear hK K
                            refine norm_ (a' := ?_) ?_ ?_
                            rotate_left
                            · show Act.put _ (some 12) _ = _
                              simp only [Act.put, List.setIfInBounds_toArray, List.set_cons_zero, List.set_cons_succ, i64_w, i32_w]
                              rfl
                            exact norm_ q62_ (hJ3_8 (v239, v244) _ ⟨q119_, q120_, q141_, q82_, q89_, q69_⟩)
                          · skip
                            refine box_step ?hg (N := 7) ?hd (cs := #[.int .i64 0, .int .i64 0, .int .i64 0, .slice none 0 0]) (t := 35) ?hr ?_; (case hd => rfl); (case hg => rfl); (case hr => first | (go_simp; done) | (go_simp; rfl))
                            intro gb246 hg w13 hbox hb
                            have n0_ := Aside0.mk (Kd.R_below q168_ hb)
                            have n1_ := Aside0.mk (IsS53.below q82_ hb)
                            have n2_ := Aside0.mk (blk_below (g := gb237) (o := .cells #[.int .i64 0, .int .i64 0, .int .i64 0, .slice none 0 0] 35 (0, 0)) q141_ hb)
                            have n3_ := Aside0.mk (KeepBut.trans q89_ (KeepBut.of_below hb g none) (.inl rfl))
                            have n4_ := Aside0.mk (below_step q69_ hb)
                            have n5_ := Aside0.mk (hbox)
                            have n6_ := Aside0.mk ((q42_ : w.heap.size ≤ gb246))
                            have n7_ := Aside0.mk ((Nat.le_trans HW0.out (q42_ : w.heap.size ≤ gb246) : w0.heap.size ≤ gb246))
                            have n8_ := Aside0.mk ((q38_ : gb237 ≠ gb246))
                            have n9_ := Aside0.mk ((q39_ : gb246 ≠ gb237))
                            have n10_ := Aside0.mk ((q27_ : g ≠ gb246))
                            have n11_ := Aside0.mk ((q28_ : gb246 ≠ g))
                            clear HO245
                            clear HI0
                            clear BK237
                            clear HK
                            clear HB
                            have HO245 := n0_
                            have HI0 := n1_
                            have BK237 := n2_
                            have HK := n3_
                            have HB := n4_
                            have BK246 := n5_
                            have GW246 := n6_
                            have GE246 := n7_
                            have NB237_246 := n8_
                            have NB246_237 := n9_
                            have NB0_246 := n10_
                            have NB246_0 := n11_
                            clear n0_ n1_ n2_ n3_ n4_ n5_ n6_ n7_ n8_ n9_ n10_ n11_
                            clear hb hbox hg
                            refine hK.out _ _ trivial (fun hHeld => ?_)
                            clear hK K
                            refine norm_ (a' := ?_) ?_ ?_
                            rotate_left
                            · show Act.put _ (some 7) _ = _
                              simp only [Act.put, List.setIfInBounds_toArray, List.set_cons_zero, List.set_cons_succ, i64_w, i32_w]
                              rfl
                            exact norm_ q62_ (hJ8_10 (v244, gb246) _ ⟨q168_, q141_, q142_, GW246.out, GE246.out, NB0_246.out, NB246_0.out, NB237_246.out, NB246_237.out, q61_, q63_, q46_⟩)
                      · skip
                        rintro v239 w12 ⟨h0_, h1_, h2_, h3_, h4_⟩
                        have n0_ : Aside0 (Kd.R (Kd.int .i64) 3 w12 w.heap.size (fun _ => True) v239 y238) := ⟨h0_⟩
                        have n1_ : Aside0 (w12.heap[gb237]? = some (.cells #[.int .i64 0, .int .i64 0, .int .i64 0, .slice none 0 0] 35 (0, 0))) := ⟨h1_⟩
                        have n2_ : Aside0 (IsS53 w0 w12 g s0_0 s0_1) := ⟨h2_⟩
                        have n3_ : Aside0 (KeepBut w w12 g none) := ⟨h3_⟩
                        have n4_ : Aside0 (Below w0.heap.size w0 w12) := ⟨h4_⟩
                        clear BK237
                        clear HI0
                        clear HK
                        clear HB
                        clear h0_ h1_ h2_ h3_ h4_
                        have HO240 := n0_
                        have BK237 := n1_
                        have HI0 := n2_
                        have HK := n3_
                        have HB := n4_
                        clear n0_ n1_ n2_ n3_ n4_
                        have hHeld := trivial
                        obtain ⟨Ao13, co13, eo13⟩ := Kd.R_slice HO240.out
                        (first | subst eo13 | (injection eo13 with f1_ f2_ f3_; have f4_ := f1_.symm; have f5_ := f3_.symm; clear f1_ f2_ f3_; subst f4_; subst f5_))
                        refine norm_ (a' := ?_) ?_ ?_
                        rotate_left
                        · simp only [putAll, Act.put, List.setIfInBounds_toArray, List.set_cons_zero, List.set_cons_succ]
                          rfl
                        refine three_ (i := 4) (j := 8) (k := 10) (Ni := some 13) (Nj := some 17) (Nk := some 7) #[true, true, true, true, true, true, true, true, false, false, false, false] #[true, true, true, true, false, true, true, true, true, false, false, false] #[true, true, true, true, false, true, true, true, false, false, true, false] rfl rfl rfl rfl rfl rfl (three_of HT_.out (by kernel_rfl)) (by decide) (by decide) (by decide) (fun K hK => ?_) (fun K hK => ?_) (fun K hK => ?_)
                        · skip
                          refine goes_ Try.func11 (by kernel_rfl) rfl #[.pointer (some ⟨g, 0, none⟩), .slice Ao13 y238.length co13] (by rfl) rfl rfl q117_ ?_
                          with_reducible refine (tilefarmgen_Tape_Pick.calls g s0_0 s0_1 _ _ y238 t241 t242 w0 _ ?side1 ?side2 ?side3 ?side4 ?side5 A4.out).mono ?_
                          (case side1 => repeat (first | (with_reducible first | exact HI0.out | apply IsS53.alloc | apply IsS53.drewN | apply IsS53.drew | apply IsS53.set_1 | refine IsS53.far ?_ NB0_237.out _) | exact HI0.out))
                          (case side2 => repeat (first | (with_reducible first | exact HB.out | apply below_alloc | apply pw_below_drewN | apply below_drew1 | refine below_set ?_ (IsS53.ge HI0.out) | refine below_set ?_ GE237.out) | exact HB.out))
                          (case side3 => repeat (first | exact (Kd.R_reads' HO240.out).2.2 | (with_reducible refine Kd.C_alloc ?_ _) | (with_reducible refine Kd.C_drewN ?_ _) | (with_reducible refine Kd.C_drew ?_)))
                          (case side4 => exact (Kd.R_reads' HO240.out).2.1)
                          (case side5 => exact far_slice (IsS53.own_ne HI0.out HO240.out (by decide)))
                          rintro e w14 ⟨rfl, hi, hb, hk⟩
                          refine ⟨_, rfl, ?_⟩
                          have n0_ := Aside0.mk (KeepBut.blk hk (g' := gb237) (o := .cells #[.int .i64 0, .int .i64 0, .int .i64 0, .slice none 0 0] 35 (0, 0)) q141_ NB237_0.out (by simp))
                          have n1_ := Aside0.mk (Kd.R_mono (Kd.R_keep (IsS53.apart (show IsS53 w0 _ g s0_0 s0_1 from by repeat (first | (with_reducible first | exact HI0.out | apply IsS53.alloc | apply IsS53.drewN | apply IsS53.drew | apply IsS53.set_1 | refine IsS53.far ?_ NB0_237.out _) | exact HI0.out)) q167_ (by decide)) hk (fun _ h => h.2)) (fun _ h => h.1))
                          have n2_ := Aside0.mk (KeepBut.trans q89_ hk (.inl rfl))
                          have n3_ := Aside0.mk (hb)
                          have n4_ := Aside0.mk (hi)
                          clear BK237
                          clear HO240
                          clear HK
                          clear HB
                          clear HI0
                          have BK237 := n0_
                          have HO240 := n1_
                          have HK := n2_
                          have HB := n3_
                          have HI0 := n4_
                          clear n0_ n1_ n2_ n3_ n4_
                          (try clear hb)
                          (try clear hb2)
                          (try clear hk)
                          (try clear hi)
                          refine hK.out _ _ trivial (fun hHeld => ?_)
                          clear hK K
                          refine norm_ (a' := ?_) ?_ ?_
                          rotate_left
                          · show Act.put _ (some 13) _ = _
                            simp only [Act.put, List.setIfInBounds_toArray, List.set_cons_zero, List.set_cons_succ, i64_w, i32_w]
                            rfl
                          exact norm_ q62_ (hJ3_4 (.slice Ao13 y238.length co13) _ ⟨q167_, q141_, q82_, q89_, q69_⟩)
                        · skip
                          refine Kd.R_make_step (Kd.int .i64) _ 3 (by rfl) (N := 17) rfl 22 _ _ rfl ji5 rfl rfl Try.underlying22 (.int .i64 0) 8 info3 rfl (by decide) (by omega) 0 (ok := fun _ => True) (okp := fun _ => True) rfl (fun _ hk => hk) trivial (of_decide_eq_true q184_) (Nat.le_trans (Nat.mul_le_mul_right _ (of_decide_eq_true q184_ : ji5.toNat ≤ 35184372088832)) (by omega)) (Below.refl _ _) (Nat.le_refl _) ?_
                          intro v244 w13 ho14 hb hg_ hnew_
                          clear hg_ hnew_
                          (first | rw [← Ny243.out] at ho14 | (simp only [Int.reduceToNat] at ho14; rw [← Ny243.out] at ho14))
                          have n0_ := Aside0.mk (Kd.R_elder' q167_ (Kd.R_base ho14) hb)
                          have n1_ := Aside0.mk (Kd.R_lower (Kd.R_new' ho14 (Kd.R_lt q167_)) (keep_size (w := w) (g := g) (row := none) q89_))
                          have n2_ := Aside0.mk (IsS53.below q82_ hb)
                          have n3_ := Aside0.mk (blk_below (g := gb237) (o := .cells #[.int .i64 0, .int .i64 0, .int .i64 0, .slice none 0 0] 35 (0, 0)) q141_ hb)
                          have n4_ := Aside0.mk (KeepBut.trans q89_ (KeepBut.of_below hb g none) (.inl rfl))
                          have n5_ := Aside0.mk (below_step q69_ hb)
                          clear HO240
                          clear HI0
                          clear BK237
                          clear HK
                          clear HB
                          have HO240 := n0_
                          have HO245 := n1_
                          have HI0 := n2_
                          have BK237 := n3_
                          have HK := n4_
                          have HB := n5_
                          clear n0_ n1_ n2_ n3_ n4_ n5_
                          clear hb ho14
                          refine hK.out _ _ trivial (fun hHeld => ?_)
                          clear hK K
                          refine norm_ (a' := ?_) ?_ ?_
                          rotate_left
                          · show Act.put _ (some 17) _ = _
                            simp only [Act.put, List.setIfInBounds_toArray, List.set_cons_zero, List.set_cons_succ, i64_w, i32_w]
                            rfl
                          exact norm_ q62_ (hJ3_8 ((.slice Ao13 y238.length co13 : Value), v244) _ ⟨q119_, q120_, q141_, q82_, q89_, q69_⟩)
                        · skip
                          refine box_step ?hg (N := 7) ?hd (cs := #[.int .i64 0, .int .i64 0, .int .i64 0, .slice none 0 0]) (t := 35) ?hr ?_; (case hd => rfl); (case hg => rfl); (case hr => first | (go_simp; done) | (go_simp; rfl))
                          intro gb246 hg w13 hbox hb
                          have n0_ := Aside0.mk (Kd.R_below q167_ hb)
                          have n1_ := Aside0.mk (IsS53.below q82_ hb)
                          have n2_ := Aside0.mk (blk_below (g := gb237) (o := .cells #[.int .i64 0, .int .i64 0, .int .i64 0, .slice none 0 0] 35 (0, 0)) q141_ hb)
                          have n3_ := Aside0.mk (KeepBut.trans q89_ (KeepBut.of_below hb g none) (.inl rfl))
                          have n4_ := Aside0.mk (below_step q69_ hb)
                          have n5_ := Aside0.mk (hbox)
                          have n6_ := Aside0.mk ((q42_ : w.heap.size ≤ gb246))
                          have n7_ := Aside0.mk ((Nat.le_trans HW0.out (q42_ : w.heap.size ≤ gb246) : w0.heap.size ≤ gb246))
                          have n8_ := Aside0.mk ((q38_ : gb237 ≠ gb246))
                          have n9_ := Aside0.mk ((q39_ : gb246 ≠ gb237))
                          have n10_ := Aside0.mk ((q27_ : g ≠ gb246))
                          have n11_ := Aside0.mk ((q28_ : gb246 ≠ g))
                          clear HO240
                          clear HI0
                          clear BK237
                          clear HK
                          clear HB
                          have HO240 := n0_
                          have HI0 := n1_
                          have BK237 := n2_
                          have HK := n3_
                          have HB := n4_
                          have BK246 := n5_
                          have GW246 := n6_
                          have GE246 := n7_
                          have NB237_246 := n8_
                          have NB246_237 := n9_
                          have NB0_246 := n10_
                          have NB246_0 := n11_
                          clear n0_ n1_ n2_ n3_ n4_ n5_ n6_ n7_ n8_ n9_ n10_ n11_
                          clear hb hbox hg
                          refine hK.out _ _ trivial (fun hHeld => ?_)
                          clear hK K
                          refine norm_ (a' := ?_) ?_ ?_
                          rotate_left
                          · show Act.put _ (some 7) _ = _
                            simp only [Act.put, List.setIfInBounds_toArray, List.set_cons_zero, List.set_cons_succ, i64_w, i32_w]
                            rfl
                          exact norm_ q62_ (hJ3_10 ((.slice Ao13 y238.length co13 : Value), gb246) _ ⟨q167_, q141_, q142_, GW246.out, GE246.out, NB0_246.out, NB246_0.out, NB237_246.out, NB246_237.out, q61_, q63_, q46_⟩)
                    · skip
                      rintro ⟨v244, gb246⟩ w13 ⟨h0_, h1_, h2_, h3_, h4_, h5_, h6_, h7_, h8_, h9_, h10_, h11_⟩
                      have n0_ : Aside0 (Kd.R (Kd.int .i64) 3 w13 w.heap.size (fun _ => True) v244 y243) := ⟨h0_⟩
                      have n1_ : Aside0 (w13.heap[gb237]? = some (.cells #[.int .i64 0, .int .i64 0, .int .i64 0, .slice none 0 0] 35 (0, 0))) := ⟨h1_⟩
                      have n2_ : Aside0 (w13.heap[gb246]? = some (.cells #[.int .i64 0, .int .i64 0, .int .i64 0, .slice none 0 0] 35 (0, 0))) := ⟨h2_⟩
                      have n3_ : Aside0 (w.heap.size ≤ gb246) := ⟨h3_⟩
                      have n4_ : Aside0 (w0.heap.size ≤ gb246) := ⟨h4_⟩
                      have n5_ : Aside0 (g ≠ gb246) := ⟨h5_⟩
                      have n6_ : Aside0 (gb246 ≠ g) := ⟨h6_⟩
                      have n7_ : Aside0 (gb237 ≠ gb246) := ⟨h7_⟩
                      have n8_ : Aside0 (gb246 ≠ gb237) := ⟨h8_⟩
                      have n9_ : Aside0 (IsS53 w0 w13 g s0_0 s0_1) := ⟨h9_⟩
                      have n10_ : Aside0 (KeepBut w w13 g none) := ⟨h10_⟩
                      have n11_ : Aside0 (Below w0.heap.size w0 w13) := ⟨h11_⟩
                      clear BK237
                      clear HI0
                      clear HK
                      clear HB
                      clear h0_ h1_ h2_ h3_ h4_ h5_ h6_ h7_ h8_ h9_ h10_ h11_
                      have HO245 := n0_
                      have BK237 := n1_
                      have BK246 := n2_
                      have GW246 := n3_
                      have GE246 := n4_
                      have NB0_246 := n5_
                      have NB246_0 := n6_
                      have NB237_246 := n7_
                      have NB246_237 := n8_
                      have HI0 := n9_
                      have HK := n10_
                      have HB := n11_
                      clear n0_ n1_ n2_ n3_ n4_ n5_ n6_ n7_ n8_ n9_ n10_ n11_
                      have hHeld := trivial
                      refine norm_ (a' := ?_) ?_ ?_
                      rotate_left
                      · simp only [putAll, Act.put, List.setIfInBounds_toArray, List.set_cons_zero, List.set_cons_succ]
                        rfl
                      refine one_ (i := 3) (N := some 12) #[true, true, true, true, false, true, true, true, true, false, true, false] rfl rfl (one_of HT_.out (by kernel_rfl)) (by decide) (fun K hK => ?_)
                      refine Kd.R_lit_step (Kd.int .i64) _ 3 ?hg (N := 12) ?hd (xs := ([255, 255, 65535, 1, 7] : List Int)) (inner := [.int .i64 255, .int .i64 255, .int .i64 65535, .int .i64 1, .int .i64 7]) (ok := fun _ => True) (okp := fun _ => True) ?hr ?hp (fun _ hk => hk) trivial (Below.refl _ _) (Nat.le_refl _) (by simp) ?_; (case hd => rfl); (case hg => rfl); (case hr => first | (go_simp; done) | (go_simp; rfl)); (case hp => exact (Reps.one (show Kd.M (Kd.int .i64) _ _ _ 255 [.int .i64 255] from rfl) (Reps.one (show Kd.M (Kd.int .i64) _ _ _ 255 [.int .i64 255] from rfl) (Reps.one (show Kd.M (Kd.int .i64) _ _ _ 65535 [.int .i64 65535] from rfl) (Reps.one (show Kd.M (Kd.int .i64) _ _ _ 1 [.int .i64 1] from rfl) (Reps.one (show Kd.M (Kd.int .i64) _ _ _ 7 [.int .i64 7] from rfl) (Reps.none _ _)))))))
                      intro v239 w14 ho15 hb hg_ hnew_
                      clear hg_ hnew_
                      (first | rw [← Ny238.out] at ho15 | (simp only [Int.reduceToNat] at ho15; rw [← Ny238.out] at ho15))
                      have n0_ := Aside0.mk (Kd.R_elder' q168_ (Kd.R_base ho15) hb)
                      have n1_ := Aside0.mk (Kd.R_lower (Kd.R_new' ho15 (Kd.R_lt q168_)) (keep_size (w := w) (g := g) (row := none) q63_))
                      have n2_ := Aside0.mk (IsS53.below q61_ hb)
                      have n3_ := Aside0.mk (blk_below (g := gb237) (o := .cells #[.int .i64 0, .int .i64 0, .int .i64 0, .slice none 0 0] 35 (0, 0)) q141_ hb)
                      have n4_ := Aside0.mk (blk_below (g := gb246) (o := .cells #[.int .i64 0, .int .i64 0, .int .i64 0, .slice none 0 0] 35 (0, 0)) q142_ hb)
                      have n5_ := Aside0.mk (KeepBut.trans q63_ (KeepBut.of_below hb g none) (.inl rfl))
                      have n6_ := Aside0.mk (below_step q46_ hb)
                      clear HO245
                      clear HI0
                      clear BK237
                      clear BK246
                      clear HK
                      clear HB
                      have HO245 := n0_
                      have HO240 := n1_
                      have HI0 := n2_
                      have BK237 := n3_
                      have BK246 := n4_
                      have HK := n5_
                      have HB := n6_
                      clear n0_ n1_ n2_ n3_ n4_ n5_ n6_
                      clear hb ho15
                      refine hK.out _ _ trivial (fun hHeld => ?_)
                      clear hK K
                      refine norm_ (a' := ?_) ?_ ?_
                      rotate_left
                      · show Act.put _ (some 12) _ = _
                        simp only [Act.put, List.setIfInBounds_toArray, List.set_cons_zero, List.set_cons_succ, i64_w, i32_w]
                        rfl
                      exact norm_ q62_ (hJ3_8_10 (v239, v244, gb246) _ ⟨q119_, q120_, q141_, q142_, GW246.out, GE246.out, NB0_246.out, NB246_0.out, NB237_246.out, NB246_237.out, q61_, q63_, q46_⟩)
                  · skip
                    rintro ⟨v239, gb246⟩ w13 ⟨h0_, h1_, h2_, h3_, h4_, h5_, h6_, h7_, h8_, h9_, h10_, h11_⟩
                    have n0_ : Aside0 (Kd.R (Kd.int .i64) 3 w13 w.heap.size (fun _ => True) v239 y238) := ⟨h0_⟩
                    have n1_ : Aside0 (w13.heap[gb237]? = some (.cells #[.int .i64 0, .int .i64 0, .int .i64 0, .slice none 0 0] 35 (0, 0))) := ⟨h1_⟩
                    have n2_ : Aside0 (w13.heap[gb246]? = some (.cells #[.int .i64 0, .int .i64 0, .int .i64 0, .slice none 0 0] 35 (0, 0))) := ⟨h2_⟩
                    have n3_ : Aside0 (w.heap.size ≤ gb246) := ⟨h3_⟩
                    have n4_ : Aside0 (w0.heap.size ≤ gb246) := ⟨h4_⟩
                    have n5_ : Aside0 (g ≠ gb246) := ⟨h5_⟩
                    have n6_ : Aside0 (gb246 ≠ g) := ⟨h6_⟩
                    have n7_ : Aside0 (gb237 ≠ gb246) := ⟨h7_⟩
                    have n8_ : Aside0 (gb246 ≠ gb237) := ⟨h8_⟩
                    have n9_ : Aside0 (IsS53 w0 w13 g s0_0 s0_1) := ⟨h9_⟩
                    have n10_ : Aside0 (KeepBut w w13 g none) := ⟨h10_⟩
                    have n11_ : Aside0 (Below w0.heap.size w0 w13) := ⟨h11_⟩
                    clear BK237
                    clear HI0
                    clear HK
                    clear HB
                    clear h0_ h1_ h2_ h3_ h4_ h5_ h6_ h7_ h8_ h9_ h10_ h11_
                    have HO240 := n0_
                    have BK237 := n1_
                    have BK246 := n2_
                    have GW246 := n3_
                    have GE246 := n4_
                    have NB0_246 := n5_
                    have NB246_0 := n6_
                    have NB237_246 := n7_
                    have NB246_237 := n8_
                    have HI0 := n9_
                    have HK := n10_
                    have HB := n11_
                    clear n0_ n1_ n2_ n3_ n4_ n5_ n6_ n7_ n8_ n9_ n10_ n11_
                    have hHeld := trivial
                    obtain ⟨Ao14, co14, eo14⟩ := Kd.R_slice HO240.out
                    (first | subst eo14 | (injection eo14 with f1_ f2_ f3_; have f4_ := f1_.symm; have f5_ := f3_.symm; clear f1_ f2_ f3_; subst f4_; subst f5_))
                    refine norm_ (a' := ?_) ?_ ?_
                    rotate_left
                    · simp only [putAll, Act.put, List.setIfInBounds_toArray, List.set_cons_zero, List.set_cons_succ]
                      rfl
                    refine two_ (i := 4) (j := 8) (Ni := some 13) (Nj := some 17) #[true, true, true, true, true, true, true, true, false, false, true, false] #[true, true, true, true, false, true, true, true, true, false, true, false] rfl rfl rfl rfl (two_of HT_.out (by kernel_rfl)) (by decide) (by decide) (fun K hK => ?_) (fun K hK => ?_)
                    · skip
                      refine goes_ Try.func11 (by kernel_rfl) rfl #[.pointer (some ⟨g, 0, none⟩), .slice Ao14 y238.length co14] (by rfl) rfl rfl q117_ ?_
                      with_reducible refine (tilefarmgen_Tape_Pick.calls g s0_0 s0_1 _ _ y238 t241 t242 w0 _ ?side1 ?side2 ?side3 ?side4 ?side5 A4.out).mono ?_
                      (case side1 => repeat (first | (with_reducible first | exact HI0.out | apply IsS53.alloc | apply IsS53.drewN | apply IsS53.drew | apply IsS53.set_1 | refine IsS53.far ?_ NB0_237.out _ | refine IsS53.far ?_ NB0_246.out _) | exact HI0.out))
                      (case side2 => repeat (first | (with_reducible first | exact HB.out | apply below_alloc | apply pw_below_drewN | apply below_drew1 | refine below_set ?_ (IsS53.ge HI0.out) | refine below_set ?_ GE237.out | refine below_set ?_ GE246.out) | exact HB.out))
                      (case side3 => repeat (first | exact (Kd.R_reads' HO240.out).2.2 | (with_reducible refine Kd.C_alloc ?_ _) | (with_reducible refine Kd.C_drewN ?_ _) | (with_reducible refine Kd.C_drew ?_)))
                      (case side4 => exact (Kd.R_reads' HO240.out).2.1)
                      (case side5 => exact far_slice (IsS53.own_ne HI0.out HO240.out (by decide)))
                      rintro e w15 ⟨rfl, hi, hb, hk⟩
                      refine ⟨_, rfl, ?_⟩
                      have n0_ := Aside0.mk (KeepBut.blk hk (g' := gb237) (o := .cells #[.int .i64 0, .int .i64 0, .int .i64 0, .slice none 0 0] 35 (0, 0)) q141_ NB237_0.out (by simp))
                      have n1_ := Aside0.mk (Kd.R_mono (Kd.R_keep (IsS53.apart (show IsS53 w0 _ g s0_0 s0_1 from by repeat (first | (with_reducible first | exact HI0.out | apply IsS53.alloc | apply IsS53.drewN | apply IsS53.drew | apply IsS53.set_1 | refine IsS53.far ?_ NB0_237.out _ | refine IsS53.far ?_ NB0_246.out _) | exact HI0.out)) q167_ (by decide)) hk (fun _ h => h.2)) (fun _ h => h.1))
                      have n2_ := Aside0.mk (KeepBut.blk hk (g' := gb246) (o := .cells #[.int .i64 0, .int .i64 0, .int .i64 0, .slice none 0 0] 35 (0, 0)) q142_ NB246_0.out (by simp))
                      have n3_ := Aside0.mk (KeepBut.trans q63_ hk (.inl rfl))
                      have n4_ := Aside0.mk (hb)
                      have n5_ := Aside0.mk (hi)
                      clear BK237
                      clear HO240
                      clear BK246
                      clear HK
                      clear HB
                      clear HI0
                      have BK237 := n0_
                      have HO240 := n1_
                      have BK246 := n2_
                      have HK := n3_
                      have HB := n4_
                      have HI0 := n5_
                      clear n0_ n1_ n2_ n3_ n4_ n5_
                      (try clear hb)
                      (try clear hb2)
                      (try clear hk)
                      (try clear hi)
                      refine hK.out _ _ trivial (fun hHeld => ?_)
                      clear hK K
                      refine norm_ (a' := ?_) ?_ ?_
                      rotate_left
                      · show Act.put _ (some 13) _ = _
                        simp only [Act.put, List.setIfInBounds_toArray, List.set_cons_zero, List.set_cons_succ, i64_w, i32_w]
                        rfl
                      exact norm_ q62_ (hJ3_4_10 (.slice Ao14 y238.length co14, gb246) _ ⟨q167_, q141_, q142_, GW246.out, GE246.out, NB0_246.out, NB246_0.out, NB237_246.out, NB246_237.out, q61_, q63_, q46_⟩)
                    · skip
                      refine Kd.R_make_step (Kd.int .i64) _ 3 (by rfl) (N := 17) rfl 22 _ _ rfl ji5 rfl rfl Try.underlying22 (.int .i64 0) 8 info3 rfl (by decide) (by omega) 0 (ok := fun _ => True) (okp := fun _ => True) rfl (fun _ hk => hk) trivial (of_decide_eq_true q184_) (Nat.le_trans (Nat.mul_le_mul_right _ (of_decide_eq_true q184_ : ji5.toNat ≤ 35184372088832)) (by omega)) (Below.refl _ _) (Nat.le_refl _) ?_
                      intro v244 w14 ho15 hb hg_ hnew_
                      clear hg_ hnew_
                      (first | rw [← Ny243.out] at ho15 | (simp only [Int.reduceToNat] at ho15; rw [← Ny243.out] at ho15))
                      have n0_ := Aside0.mk (Kd.R_elder' q167_ (Kd.R_base ho15) hb)
                      have n1_ := Aside0.mk (Kd.R_lower (Kd.R_new' ho15 (Kd.R_lt q167_)) (keep_size (w := w) (g := g) (row := none) q63_))
                      have n2_ := Aside0.mk (IsS53.below q61_ hb)
                      have n3_ := Aside0.mk (blk_below (g := gb237) (o := .cells #[.int .i64 0, .int .i64 0, .int .i64 0, .slice none 0 0] 35 (0, 0)) q141_ hb)
                      have n4_ := Aside0.mk (blk_below (g := gb246) (o := .cells #[.int .i64 0, .int .i64 0, .int .i64 0, .slice none 0 0] 35 (0, 0)) q142_ hb)
                      have n5_ := Aside0.mk (KeepBut.trans q63_ (KeepBut.of_below hb g none) (.inl rfl))
                      have n6_ := Aside0.mk (below_step q46_ hb)
                      clear HO240
                      clear HI0
                      clear BK237
                      clear BK246
                      clear HK
                      clear HB
                      have HO240 := n0_
                      have HO245 := n1_
                      have HI0 := n2_
                      have BK237 := n3_
                      have BK246 := n4_
                      have HK := n5_
                      have HB := n6_
                      clear n0_ n1_ n2_ n3_ n4_ n5_ n6_
                      clear hb ho15
                      refine hK.out _ _ trivial (fun hHeld => ?_)
                      clear hK K
                      refine norm_ (a' := ?_) ?_ ?_
                      rotate_left
                      · show Act.put _ (some 17) _ = _
                        simp only [Act.put, List.setIfInBounds_toArray, List.set_cons_zero, List.set_cons_succ, i64_w, i32_w]
                        rfl
                      exact norm_ q62_ (hJ3_8_10 ((.slice Ao14 y238.length co14 : Value), v244, gb246) _ ⟨q119_, q120_, q141_, q142_, GW246.out, GE246.out, NB0_246.out, NB246_0.out, NB237_246.out, NB246_237.out, q61_, q63_, q46_⟩)
                · skip
                  rintro ⟨v239, v244⟩ w14 ⟨h0_, h1_, h2_, h3_, h4_, h5_⟩
                  have n0_ : Aside0 (Kd.R (Kd.int .i64) 3 w14 w.heap.size (fun k_ => some k_ ≠ (v244 : Value).ownBlock) v239 y238) := ⟨h0_⟩
                  have n1_ : Aside0 (Kd.R (Kd.int .i64) 3 w14 w.heap.size (fun k_ => some k_ ≠ (v239 : Value).ownBlock) v244 y243) := ⟨h1_⟩
                  have n2_ : Aside0 (w14.heap[gb237]? = some (.cells #[.int .i64 0, .int .i64 0, .int .i64 0, .slice none 0 0] 35 (0, 0))) := ⟨h2_⟩
                  have n3_ : Aside0 (IsS53 w0 w14 g s0_0 s0_1) := ⟨h3_⟩
                  have n4_ : Aside0 (KeepBut w w14 g none) := ⟨h4_⟩
                  have n5_ : Aside0 (Below w0.heap.size w0 w14) := ⟨h5_⟩
                  clear BK237
                  clear HI0
                  clear HK
                  clear HB
                  clear h0_ h1_ h2_ h3_ h4_ h5_
                  have HO240 := n0_
                  have HO245 := n1_
                  have BK237 := n2_
                  have HI0 := n3_
                  have HK := n4_
                  have HB := n5_
                  clear n0_ n1_ n2_ n3_ n4_ n5_
                  have hHeld := trivial
                  obtain ⟨Ao15, co15, eo15⟩ := Kd.R_slice HO240.out
                  (first | subst eo15 | (injection eo15 with f1_ f2_ f3_; have f4_ := f1_.symm; have f5_ := f3_.symm; clear f1_ f2_ f3_; subst f4_; subst f5_))
                  refine norm_ (a' := ?_) ?_ ?_
                  rotate_left
                  · simp only [putAll, Act.put, List.setIfInBounds_toArray, List.set_cons_zero, List.set_cons_succ]
                    rfl
                  refine two_ (i := 4) (j := 10) (Ni := some 13) (Nj := some 7) #[true, true, true, true, true, true, true, true, true, false, false, false] #[true, true, true, true, false, true, true, true, true, false, true, false] rfl rfl rfl rfl (two_of HT_.out (by kernel_rfl)) (by decide) (by decide) (fun K hK => ?_) (fun K hK => ?_)
                  · skip
                    refine goes_ Try.func11 (by kernel_rfl) rfl #[.pointer (some ⟨g, 0, none⟩), .slice Ao15 y238.length co15] (by rfl) rfl rfl q117_ ?_
                    with_reducible refine (tilefarmgen_Tape_Pick.calls g s0_0 s0_1 _ _ y238 t241 t242 w0 _ ?side1 ?side2 ?side3 ?side4 ?side5 A4.out).mono ?_
                    (case side1 => repeat (first | (with_reducible first | exact HI0.out | apply IsS53.alloc | apply IsS53.drewN | apply IsS53.drew | apply IsS53.set_1 | refine IsS53.far ?_ NB0_237.out _) | exact HI0.out))
                    (case side2 => repeat (first | (with_reducible first | exact HB.out | apply below_alloc | apply pw_below_drewN | apply below_drew1 | refine below_set ?_ (IsS53.ge HI0.out) | refine below_set ?_ GE237.out) | exact HB.out))
                    (case side3 => repeat (first | exact (Kd.R_reads' HO240.out).2.2 | (with_reducible refine Kd.C_alloc ?_ _) | (with_reducible refine Kd.C_drewN ?_ _) | (with_reducible refine Kd.C_drew ?_)))
                    (case side4 => exact (Kd.R_reads' HO240.out).2.1)
                    (case side5 => exact far_slice (IsS53.own_ne HI0.out HO240.out (by decide)))
                    rintro e w16 ⟨rfl, hi, hb, hk⟩
                    refine ⟨_, rfl, ?_⟩
                    have n0_ := Aside0.mk (KeepBut.blk hk (g' := gb237) (o := .cells #[.int .i64 0, .int .i64 0, .int .i64 0, .slice none 0 0] 35 (0, 0)) q141_ NB237_0.out (by simp))
                    have n1_ := Aside0.mk (Kd.R_mono (Kd.R_keep (IsS53.apart (show IsS53 w0 _ g s0_0 s0_1 from by repeat (first | (with_reducible first | exact HI0.out | apply IsS53.alloc | apply IsS53.drewN | apply IsS53.drew | apply IsS53.set_1 | refine IsS53.far ?_ NB0_237.out _) | exact HI0.out)) q167_ (by decide)) hk (fun _ h => h.2)) (fun _ h => h.1))
                    have n2_ := Aside0.mk (Kd.R_mono (Kd.R_keep (IsS53.apart (show IsS53 w0 _ g s0_0 s0_1 from by repeat (first | (with_reducible first | exact HI0.out | apply IsS53.alloc | apply IsS53.drewN | apply IsS53.drew | apply IsS53.set_1 | refine IsS53.far ?_ NB0_237.out _) | exact HI0.out)) q168_ (by decide)) hk (fun _ h => h.2)) (fun _ h => h.1))
                    have n3_ := Aside0.mk (KeepBut.trans q89_ hk (.inl rfl))
                    have n4_ := Aside0.mk (hb)
                    have n5_ := Aside0.mk (hi)
                    clear BK237
                    clear HO240
                    clear HO245
                    clear HK
                    clear HB
                    clear HI0
                    have BK237 := n0_
                    have HO240 := n1_
                    have HO245 := n2_
                    have HK := n3_
                    have HB := n4_
                    have HI0 := n5_
                    clear n0_ n1_ n2_ n3_ n4_ n5_
                    (try clear hb)
                    (try clear hb2)
                    (try clear hk)
                    (try clear hi)
                    obtain ⟨Ao17, co17, eo17⟩ := Kd.R_slice HO245.out
                    (first | subst eo17 | (injection eo17 with f1_ f2_ f3_; have f4_ := f1_.symm; have f5_ := f3_.symm; clear f1_ f2_ f3_; subst f4_; subst f5_))
                    refine hK.out _ _ trivial (fun hHeld => ?_)
                    clear hK K
                    refine norm_ (a' := ?_) ?_ ?_
                    rotate_left
                    · show Act.put _ (some 13) _ = _
                      simp only [Act.put, List.setIfInBounds_toArray, List.set_cons_zero, List.set_cons_succ, i64_w, i32_w]
                      rfl
                    refine pure_ (i := 9) (N := some 18) (v := ?_) (a' := ?_) #[true, true, true, true, true, true, true, true, true, true, false, false] rfl rfl (any_of HT_.out (by kernel_rfl)) (fun _ _ _ h => h) (Or.inl ⟨by rfl, ?_⟩) ?_ ?_
                    rotate_left
                    · intro w'
                      go_simp
                      with_reducible rfl
                    rotate_left
                    · simp only [Act.put, List.setIfInBounds_toArray, List.set_cons_zero, List.set_cons_succ, i64_w, i32_w]
                      rfl
                    exact norm_ q62_ (hJ3_4_8 (.slice Ao15 y238.length co15, .slice Ao17 y243.length co17) _ ⟨q167_, q168_, q141_, q82_, q89_, q69_⟩)
                  · skip
                    refine box_step ?hg (N := 7) ?hd (cs := #[.int .i64 0, .int .i64 0, .int .i64 0, .slice none 0 0]) (t := 35) ?hr ?_; (case hd => rfl); (case hg => rfl); (case hr => first | (go_simp; done) | (go_simp; rfl))
                    intro gb246 hg w15 hbox hb
                    have n0_ := Aside0.mk (Kd.R_below q167_ hb)
                    have n1_ := Aside0.mk (Kd.R_below q168_ hb)
                    have n2_ := Aside0.mk (IsS53.below q82_ hb)
                    have n3_ := Aside0.mk (blk_below (g := gb237) (o := .cells #[.int .i64 0, .int .i64 0, .int .i64 0, .slice none 0 0] 35 (0, 0)) q141_ hb)
                    have n4_ := Aside0.mk (KeepBut.trans q89_ (KeepBut.of_below hb g none) (.inl rfl))
                    have n5_ := Aside0.mk (below_step q69_ hb)
                    have n6_ := Aside0.mk (hbox)
                    have n7_ := Aside0.mk ((q42_ : w.heap.size ≤ gb246))
                    have n8_ := Aside0.mk ((Nat.le_trans HW0.out (q42_ : w.heap.size ≤ gb246) : w0.heap.size ≤ gb246))
                    have n9_ := Aside0.mk ((q38_ : gb237 ≠ gb246))
                    have n10_ := Aside0.mk ((q39_ : gb246 ≠ gb237))
                    have n11_ := Aside0.mk ((q27_ : g ≠ gb246))
                    have n12_ := Aside0.mk ((q28_ : gb246 ≠ g))
                    clear HO240
                    clear HO245
                    clear HI0
                    clear BK237
                    clear HK
                    clear HB
                    have HO240 := n0_
                    have HO245 := n1_
                    have HI0 := n2_
                    have BK237 := n3_
                    have HK := n4_
                    have HB := n5_
                    have BK246 := n6_
                    have GW246 := n7_
                    have GE246 := n8_
                    have NB237_246 := n9_
                    have NB246_237 := n10_
                    have NB0_246 := n11_
                    have NB246_0 := n12_
                    clear n0_ n1_ n2_ n3_ n4_ n5_ n6_ n7_ n8_ n9_ n10_ n11_ n12_
                    clear hb hbox hg
                    refine hK.out _ _ trivial (fun hHeld => ?_)
                    clear hK K
                    refine norm_ (a' := ?_) ?_ ?_
                    rotate_left
                    · show Act.put _ (some 7) _ = _
                      simp only [Act.put, List.setIfInBounds_toArray, List.set_cons_zero, List.set_cons_succ, i64_w, i32_w]
                      rfl
                    exact norm_ q62_ (hJ3_8_10 ((.slice Ao15 y238.length co15 : Value), v244, gb246) _ ⟨q167_, q168_, q141_, q142_, GW246.out, GE246.out, NB0_246.out, NB246_0.out, NB237_246.out, NB246_237.out, q61_, q63_, q46_⟩)
              · skip
                rintro v239 w14 ⟨h0_, h1_, h2_, h3_, h4_⟩
                have n0_ : Aside0 (Kd.R (Kd.int .i64) 3 w14 w.heap.size (fun _ => True) v239 y238) := ⟨h0_⟩
                have n1_ : Aside0 (w14.heap[gb237]? = some (.cells #[.int .i64 0, .int .i64 0, .int .i64 0, .slice none 0 0] 35 (0, 0))) := ⟨h1_⟩
                have n2_ : Aside0 (IsS53 w0 w14 g s0_0 t242) := ⟨h2_⟩
                have n3_ : Aside0 (KeepBut w w14 g none) := ⟨h3_⟩
                have n4_ : Aside0 (Below w0.heap.size w0 w14) := ⟨h4_⟩
                clear BK237
                clear HI0
                clear HK
                clear HB
                clear h0_ h1_ h2_ h3_ h4_
                have HO240 := n0_
                have BK237 := n1_
                have HI0 := n2_
                have HK := n3_
                have HB := n4_
                clear n0_ n1_ n2_ n3_ n4_
                have hHeld := trivial
                refine norm_ (a' := ?_) ?_ ?_
                rotate_left
                · simp only [putAll, Act.put, List.setIfInBounds_toArray, List.set_cons_zero, List.set_cons_succ]
                  rfl
                refine two_ (i := 8) (j := 10) (Ni := some 17) (Nj := some 7) #[true, true, true, true, true, true, true, true, true, false, false, false] #[true, true, true, true, true, true, true, true, false, false, true, false] rfl rfl rfl rfl (two_of HT_.out (by kernel_rfl)) (by decide) (by decide) (fun K hK => ?_) (fun K hK => ?_)
                · skip
                  refine Kd.R_make_step (Kd.int .i64) _ 3 (by rfl) (N := 17) rfl 22 _ _ rfl ji5 rfl rfl Try.underlying22 (.int .i64 0) 8 info3 rfl (by decide) (by omega) 0 (ok := fun _ => True) (okp := fun _ => True) rfl (fun _ hk => hk) trivial (of_decide_eq_true q184_) (Nat.le_trans (Nat.mul_le_mul_right _ (of_decide_eq_true q184_ : ji5.toNat ≤ 35184372088832)) (by omega)) (Below.refl _ _) (Nat.le_refl _) ?_
                  intro v244 w15 ho16 hb hg_ hnew_
                  clear hg_ hnew_
                  (first | rw [← Ny243.out] at ho16 | (simp only [Int.reduceToNat] at ho16; rw [← Ny243.out] at ho16))
                  have n0_ := Aside0.mk (Kd.R_elder' q167_ (Kd.R_base ho16) hb)
                  have n1_ := Aside0.mk (Kd.R_lower (Kd.R_new' ho16 (Kd.R_lt q167_)) (keep_size (w := w) (g := g) (row := none) q89_))
                  have n2_ := Aside0.mk (IsS53.below q82_ hb)
                  have n3_ := Aside0.mk (blk_below (g := gb237) (o := .cells #[.int .i64 0, .int .i64 0, .int .i64 0, .slice none 0 0] 35 (0, 0)) q141_ hb)
                  have n4_ := Aside0.mk (KeepBut.trans q89_ (KeepBut.of_below hb g none) (.inl rfl))
                  have n5_ := Aside0.mk (below_step q69_ hb)
                  clear HO240
                  clear HI0
                  clear BK237
                  clear HK
                  clear HB
                  have HO240 := n0_
                  have HO245 := n1_
                  have HI0 := n2_
                  have BK237 := n3_
                  have HK := n4_
                  have HB := n5_
                  clear n0_ n1_ n2_ n3_ n4_ n5_
                  clear hb ho16
                  obtain ⟨Ao17, co17, eo17⟩ := Kd.R_slice HO245.out
                  (first | subst eo17 | (injection eo17 with f1_ f2_ f3_; have f4_ := f1_.symm; have f5_ := f3_.symm; clear f1_ f2_ f3_; subst f4_; subst f5_))
                  refine hK.out _ _ trivial (fun hHeld => ?_)
                  clear hK K
                  refine norm_ (a' := ?_) ?_ ?_
                  rotate_left
                  · show Act.put _ (some 17) _ = _
                    simp only [Act.put, List.setIfInBounds_toArray, List.set_cons_zero, List.set_cons_succ, i64_w, i32_w]
                    rfl
                  refine pure_ (i := 9) (N := some 18) (v := ?_) (a' := ?_) #[true, true, true, true, true, true, true, true, true, true, false, false] rfl rfl (any_of HT_.out (by kernel_rfl)) (fun _ _ _ h => h) (Or.inl ⟨by rfl, ?_⟩) ?_ ?_
                  rotate_left
                  · intro w'
                    go_simp
                    with_reducible rfl
                  rotate_left
                  · simp only [Act.put, List.setIfInBounds_toArray, List.set_cons_zero, List.set_cons_succ, i64_w, i32_w]
                    rfl
                  exact norm_ q62_ (hJ3_4_8 (v239, .slice Ao17 y243.length co17) _ ⟨q119_, q120_, q141_, q82_, q89_, q69_⟩)
                · skip
                  refine box_step ?hg (N := 7) ?hd (cs := #[.int .i64 0, .int .i64 0, .int .i64 0, .slice none 0 0]) (t := 35) ?hr ?_; (case hd => rfl); (case hg => rfl); (case hr => first | (go_simp; done) | (go_simp; rfl))
                  intro gb246 hg w15 hbox hb
                  have n0_ := Aside0.mk (Kd.R_below q167_ hb)
                  have n1_ := Aside0.mk (IsS53.below q82_ hb)
                  have n2_ := Aside0.mk (blk_below (g := gb237) (o := .cells #[.int .i64 0, .int .i64 0, .int .i64 0, .slice none 0 0] 35 (0, 0)) q141_ hb)
                  have n3_ := Aside0.mk (KeepBut.trans q89_ (KeepBut.of_below hb g none) (.inl rfl))
                  have n4_ := Aside0.mk (below_step q69_ hb)
                  have n5_ := Aside0.mk (hbox)
                  have n6_ := Aside0.mk ((q42_ : w.heap.size ≤ gb246))
                  have n7_ := Aside0.mk ((Nat.le_trans HW0.out (q42_ : w.heap.size ≤ gb246) : w0.heap.size ≤ gb246))
                  have n8_ := Aside0.mk ((q38_ : gb237 ≠ gb246))
                  have n9_ := Aside0.mk ((q39_ : gb246 ≠ gb237))
                  have n10_ := Aside0.mk ((by rw [hg]; exact Nat.ne_of_lt (IsS53.lt (show IsS53 w0 _ g s0_0 t242 from by repeat (first | (with_reducible first | exact HI0.out | apply IsS53.alloc | apply IsS53.drewN | apply IsS53.drew | apply IsS53.set_1 | refine IsS53.far ?_ NB0_237.out _) | exact HI0.out))) : g ≠ gb246))
                  have n11_ := Aside0.mk ((by rw [hg]; exact Nat.ne_of_gt (IsS53.lt (show IsS53 w0 _ g s0_0 t242 from by repeat (first | (with_reducible first | exact HI0.out | apply IsS53.alloc | apply IsS53.drewN | apply IsS53.drew | apply IsS53.set_1 | refine IsS53.far ?_ NB0_237.out _) | exact HI0.out))) : gb246 ≠ g))
                  clear HO240
                  clear HI0
                  clear BK237
                  clear HK
                  clear HB
                  have HO240 := n0_
                  have HI0 := n1_
                  have BK237 := n2_
                  have HK := n3_
                  have HB := n4_
                  have BK246 := n5_
                  have GW246 := n6_
                  have GE246 := n7_
                  have NB237_246 := n8_
                  have NB246_237 := n9_
                  have NB0_246 := n10_
                  have NB246_0 := n11_
                  clear n0_ n1_ n2_ n3_ n4_ n5_ n6_ n7_ n8_ n9_ n10_ n11_
                  clear hb hbox hg
                  refine hK.out _ _ trivial (fun hHeld => ?_)
                  clear hK K
                  refine norm_ (a' := ?_) ?_ ?_
                  rotate_left
                  · show Act.put _ (some 7) _ = _
                    simp only [Act.put, List.setIfInBounds_toArray, List.set_cons_zero, List.set_cons_succ, i64_w, i32_w]
                    rfl
                  exact norm_ q62_ (hJ3_4_10 (v239, gb246) _ ⟨q167_, q141_, q142_, GW246.out, GE246.out, NB0_246.out, NB246_0.out, NB237_246.out, NB246_237.out, q61_, q63_, q46_⟩)
            · skip
              rintro ⟨v239, v244, gb246⟩ w15 ⟨h0_, h1_, h2_, h3_, h4_, h5_, h6_, h7_, h8_, h9_, h10_, h11_, h12_⟩
              have n0_ : Aside0 (Kd.R (Kd.int .i64) 3 w15 w.heap.size (fun k_ => some k_ ≠ (v244 : Value).ownBlock) v239 y238) := ⟨h0_⟩
              have n1_ : Aside0 (Kd.R (Kd.int .i64) 3 w15 w.heap.size (fun k_ => some k_ ≠ (v239 : Value).ownBlock) v244 y243) := ⟨h1_⟩
              have n2_ : Aside0 (w15.heap[gb237]? = some (.cells #[.int .i64 0, .int .i64 0, .int .i64 0, .slice none 0 0] 35 (0, 0))) := ⟨h2_⟩
              have n3_ : Aside0 (w15.heap[gb246]? = some (.cells #[.int .i64 0, .int .i64 0, .int .i64 0, .slice none 0 0] 35 (0, 0))) := ⟨h3_⟩
              have n4_ : Aside0 (w.heap.size ≤ gb246) := ⟨h4_⟩
              have n5_ : Aside0 (w0.heap.size ≤ gb246) := ⟨h5_⟩
              have n6_ : Aside0 (g ≠ gb246) := ⟨h6_⟩
              have n7_ : Aside0 (gb246 ≠ g) := ⟨h7_⟩
              have n8_ : Aside0 (gb237 ≠ gb246) := ⟨h8_⟩
              have n9_ : Aside0 (gb246 ≠ gb237) := ⟨h9_⟩
              have n10_ : Aside0 (IsS53 w0 w15 g s0_0 s0_1) := ⟨h10_⟩
              have n11_ : Aside0 (KeepBut w w15 g none) := ⟨h11_⟩
              have n12_ : Aside0 (Below w0.heap.size w0 w15) := ⟨h12_⟩
              clear BK237
              clear HI0
              clear HK
              clear HB
              clear h0_ h1_ h2_ h3_ h4_ h5_ h6_ h7_ h8_ h9_ h10_ h11_ h12_
              have HO240 := n0_
              have HO245 := n1_
              have BK237 := n2_
              have BK246 := n3_
              have GW246 := n4_
              have GE246 := n5_
              have NB0_246 := n6_
              have NB246_0 := n7_
              have NB237_246 := n8_
              have NB246_237 := n9_
              have HI0 := n10_
              have HK := n11_
              have HB := n12_
              clear n0_ n1_ n2_ n3_ n4_ n5_ n6_ n7_ n8_ n9_ n10_ n11_ n12_
              have hHeld := trivial
              obtain ⟨Ao16, co16, eo16⟩ := Kd.R_slice HO240.out
              (first | subst eo16 | (injection eo16 with f1_ f2_ f3_; have f4_ := f1_.symm; have f5_ := f3_.symm; clear f1_ f2_ f3_; subst f4_; subst f5_))
              refine norm_ (a' := ?_) ?_ ?_
              rotate_left
              · simp only [putAll, Act.put, List.setIfInBounds_toArray, List.set_cons_zero, List.set_cons_succ]
                rfl
              refine one_ (i := 4) (N := some 13) #[true, true, true, true, true, true, true, true, true, false, true, false] rfl rfl (one_of HT_.out (by kernel_rfl)) (by decide) (fun K hK => ?_)
              refine goes_ Try.func11 (by kernel_rfl) rfl #[.pointer (some ⟨g, 0, none⟩), .slice Ao16 y238.length co16] (by rfl) rfl rfl q117_ ?_
              with_reducible refine (tilefarmgen_Tape_Pick.calls g s0_0 s0_1 _ _ y238 t241 t242 w0 _ ?side1 ?side2 ?side3 ?side4 ?side5 A4.out).mono ?_
              (case side1 => repeat (first | (with_reducible first | exact HI0.out | apply IsS53.alloc | apply IsS53.drewN | apply IsS53.drew | apply IsS53.set_1 | refine IsS53.far ?_ NB0_237.out _ | refine IsS53.far ?_ NB0_246.out _) | exact HI0.out))
              (case side2 => repeat (first | (with_reducible first | exact HB.out | apply below_alloc | apply pw_below_drewN | apply below_drew1 | refine below_set ?_ (IsS53.ge HI0.out) | refine below_set ?_ GE237.out | refine below_set ?_ GE246.out) | exact HB.out))
              (case side3 => repeat (first | exact (Kd.R_reads' HO240.out).2.2 | (with_reducible refine Kd.C_alloc ?_ _) | (with_reducible refine Kd.C_drewN ?_ _) | (with_reducible refine Kd.C_drew ?_)))
              (case side4 => exact (Kd.R_reads' HO240.out).2.1)
              (case side5 => exact far_slice (IsS53.own_ne HI0.out HO240.out (by decide)))
              rintro e w17 ⟨rfl, hi, hb, hk⟩
              refine ⟨_, rfl, ?_⟩
              have n0_ := Aside0.mk (KeepBut.blk hk (g' := gb237) (o := .cells #[.int .i64 0, .int .i64 0, .int .i64 0, .slice none 0 0] 35 (0, 0)) q141_ NB237_0.out (by simp))
              have n1_ := Aside0.mk (Kd.R_mono (Kd.R_keep (IsS53.apart (show IsS53 w0 _ g s0_0 s0_1 from by repeat (first | (with_reducible first | exact HI0.out | apply IsS53.alloc | apply IsS53.drewN | apply IsS53.drew | apply IsS53.set_1 | refine IsS53.far ?_ NB0_237.out _ | refine IsS53.far ?_ NB0_246.out _) | exact HI0.out)) q167_ (by decide)) hk (fun _ h => h.2)) (fun _ h => h.1))
              have n2_ := Aside0.mk (Kd.R_mono (Kd.R_keep (IsS53.apart (show IsS53 w0 _ g s0_0 s0_1 from by repeat (first | (with_reducible first | exact HI0.out | apply IsS53.alloc | apply IsS53.drewN | apply IsS53.drew | apply IsS53.set_1 | refine IsS53.far ?_ NB0_237.out _ | refine IsS53.far ?_ NB0_246.out _) | exact HI0.out)) q168_ (by decide)) hk (fun _ h => h.2)) (fun _ h => h.1))
              have n3_ := Aside0.mk (KeepBut.blk hk (g' := gb246) (o := .cells #[.int .i64 0, .int .i64 0, .int .i64 0, .slice none 0 0] 35 (0, 0)) q142_ NB246_0.out (by simp))
              have n4_ := Aside0.mk (KeepBut.trans q63_ hk (.inl rfl))
              have n5_ := Aside0.mk (hb)
              have n6_ := Aside0.mk (hi)
              clear BK237
              clear HO240
              clear HO245
              clear BK246
              clear HK
              clear HB
              clear HI0
              have BK237 := n0_
              have HO240 := n1_
              have HO245 := n2_
              have BK246 := n3_
              have HK := n4_
              have HB := n5_
              have HI0 := n6_
              clear n0_ n1_ n2_ n3_ n4_ n5_ n6_
              (try clear hb)
              (try clear hb2)
              (try clear hk)
              (try clear hi)
              obtain ⟨Ao18, co18, eo18⟩ := Kd.R_slice HO245.out
              (first | subst eo18 | (injection eo18 with f1_ f2_ f3_; have f4_ := f1_.symm; have f5_ := f3_.symm; clear f1_ f2_ f3_; subst f4_; subst f5_))
              refine hK.out _ _ trivial (fun hHeld => ?_)
              clear hK K
              refine norm_ (a' := ?_) ?_ ?_
              rotate_left
              · show Act.put _ (some 13) _ = _
                simp only [Act.put, List.setIfInBounds_toArray, List.set_cons_zero, List.set_cons_succ, i64_w, i32_w]
                rfl
              refine pure_ (i := 9) (N := some 18) (v := ?_) (a' := ?_) #[true, true, true, true, true, true, true, true, true, true, true, false] rfl rfl (any_of HT_.out (by kernel_rfl)) (fun _ _ _ h => h) (Or.inl ⟨by rfl, ?_⟩) ?_ ?_
              rotate_left
              · intro w'
                go_simp
                with_reducible rfl
              rotate_left
              · simp only [Act.put, List.setIfInBounds_toArray, List.set_cons_zero, List.set_cons_succ, i64_w, i32_w]
                rfl
              exact norm_ q62_ (hJ3_4_8_10 (.slice Ao16 y238.length co16, .slice Ao18 y243.length co18, gb246) _ ⟨q167_, q168_, q141_, q142_, GW246.out, GE246.out, NB0_246.out, NB246_0.out, NB237_246.out, NB246_237.out, q61_, q63_, q46_⟩)
          · skip
            rintro ⟨v239, gb246⟩ w15 ⟨h0_, h1_, h2_, h3_, h4_, h5_, h6_, h7_, h8_, h9_, h10_, h11_⟩
            have n0_ : Aside0 (Kd.R (Kd.int .i64) 3 w15 w.heap.size (fun _ => True) v239 y238) := ⟨h0_⟩
            have n1_ : Aside0 (w15.heap[gb237]? = some (.cells #[.int .i64 0, .int .i64 0, .int .i64 0, .slice none 0 0] 35 (0, 0))) := ⟨h1_⟩
            have n2_ : Aside0 (w15.heap[gb246]? = some (.cells #[.int .i64 0, .int .i64 0, .int .i64 0, .slice none 0 0] 35 (0, 0))) := ⟨h2_⟩
            have n3_ : Aside0 (w.heap.size ≤ gb246) := ⟨h3_⟩
            have n4_ : Aside0 (w0.heap.size ≤ gb246) := ⟨h4_⟩
            have n5_ : Aside0 (g ≠ gb246) := ⟨h5_⟩
            have n6_ : Aside0 (gb246 ≠ g) := ⟨h6_⟩
            have n7_ : Aside0 (gb237 ≠ gb246) := ⟨h7_⟩
            have n8_ : Aside0 (gb246 ≠ gb237) := ⟨h8_⟩
            have n9_ : Aside0 (IsS53 w0 w15 g s0_0 t242) := ⟨h9_⟩
            have n10_ : Aside0 (KeepBut w w15 g none) := ⟨h10_⟩
            have n11_ : Aside0 (Below w0.heap.size w0 w15) := ⟨h11_⟩
            clear BK237
            clear HI0
            clear HK
            clear HB
            clear h0_ h1_ h2_ h3_ h4_ h5_ h6_ h7_ h8_ h9_ h10_ h11_
            have HO240 := n0_
            have BK237 := n1_
            have BK246 := n2_
            have GW246 := n3_
            have GE246 := n4_
            have NB0_246 := n5_
            have NB246_0 := n6_
            have NB237_246 := n7_
            have NB246_237 := n8_
            have HI0 := n9_
            have HK := n10_
            have HB := n11_
            clear n0_ n1_ n2_ n3_ n4_ n5_ n6_ n7_ n8_ n9_ n10_ n11_
            have hHeld := trivial
            refine norm_ (a' := ?_) ?_ ?_
            rotate_left
            · simp only [putAll, Act.put, List.setIfInBounds_toArray, List.set_cons_zero, List.set_cons_succ]
              rfl
            refine one_ (i := 8) (N := some 17) #[true, true, true, true, true, true, true, true, true, false, true, false] rfl rfl (one_of HT_.out (by kernel_rfl)) (by decide) (fun K hK => ?_)
            refine Kd.R_make_step (Kd.int .i64) _ 3 (by rfl) (N := 17) rfl 22 _ _ rfl ji5 rfl rfl Try.underlying22 (.int .i64 0) 8 info3 rfl (by decide) (by omega) 0 (ok := fun _ => True) (okp := fun _ => True) rfl (fun _ hk => hk) trivial (of_decide_eq_true q184_) (Nat.le_trans (Nat.mul_le_mul_right _ (of_decide_eq_true q184_ : ji5.toNat ≤ 35184372088832)) (by omega)) (Below.refl _ _) (Nat.le_refl _) ?_
            intro v244 w16 ho17 hb hg_ hnew_
            clear hg_ hnew_
            (first | rw [← Ny243.out] at ho17 | (simp only [Int.reduceToNat] at ho17; rw [← Ny243.out] at ho17))
            have n0_ := Aside0.mk (Kd.R_elder' q167_ (Kd.R_base ho17) hb)
            have n1_ := Aside0.mk (Kd.R_lower (Kd.R_new' ho17 (Kd.R_lt q167_)) (keep_size (w := w) (g := g) (row := none) q63_))
            have n2_ := Aside0.mk (IsS53.below q61_ hb)
            have n3_ := Aside0.mk (blk_below (g := gb237) (o := .cells #[.int .i64 0, .int .i64 0, .int .i64 0, .slice none 0 0] 35 (0, 0)) q141_ hb)
            have n4_ := Aside0.mk (blk_below (g := gb246) (o := .cells #[.int .i64 0, .int .i64 0, .int .i64 0, .slice none 0 0] 35 (0, 0)) q142_ hb)
            have n5_ := Aside0.mk (KeepBut.trans q63_ (KeepBut.of_below hb g none) (.inl rfl))
            have n6_ := Aside0.mk (below_step q46_ hb)
            clear HO240
            clear HI0
            clear BK237
            clear BK246
            clear HK
            clear HB
            have HO240 := n0_
            have HO245 := n1_
            have HI0 := n2_
            have BK237 := n3_
            have BK246 := n4_
            have HK := n5_
            have HB := n6_
            clear n0_ n1_ n2_ n3_ n4_ n5_ n6_
            clear hb ho17
            obtain ⟨Ao18, co18, eo18⟩ := Kd.R_slice HO245.out
            (first | subst eo18 | (injection eo18 with f1_ f2_ f3_; have f4_ := f1_.symm; have f5_ := f3_.symm; clear f1_ f2_ f3_; subst f4_; subst f5_))
            refine hK.out _ _ trivial (fun hHeld => ?_)
            clear hK K
            refine norm_ (a' := ?_) ?_ ?_
            rotate_left
            · show Act.put _ (some 17) _ = _
              simp only [Act.put, List.setIfInBounds_toArray, List.set_cons_zero, List.set_cons_succ, i64_w, i32_w]
              rfl
            refine pure_ (i := 9) (N := some 18) (v := ?_) (a' := ?_) #[true, true, true, true, true, true, true, true, true, true, true, false] rfl rfl (any_of HT_.out (by kernel_rfl)) (fun _ _ _ h => h) (Or.inl ⟨by rfl, ?_⟩) ?_ ?_
            rotate_left
            · intro w'
              go_simp
              with_reducible rfl
            rotate_left
            · simp only [Act.put, List.setIfInBounds_toArray, List.set_cons_zero, List.set_cons_succ, i64_w, i32_w]
              rfl
            exact norm_ q62_ (hJ3_4_8_10 (v239, .slice Ao18 y243.length co18, gb246) _ ⟨q119_, q120_, q141_, q142_, GW246.out, GE246.out, NB0_246.out, NB246_0.out, NB237_246.out, NB246_237.out, q61_, q63_, q46_⟩)
        · skip
          rintro ⟨v239, v244⟩ w17 ⟨h0_, h1_, h2_, h3_, h4_, h5_⟩
          have n0_ : Aside0 (Kd.R (Kd.int .i64) 3 w17 w.heap.size (fun k_ => some k_ ≠ (v244 : Value).ownBlock) v239 y238) := ⟨h0_⟩
          have n1_ : Aside0 (Kd.R (Kd.int .i64) 3 w17 w.heap.size (fun k_ => some k_ ≠ (v239 : Value).ownBlock) v244 y243) := ⟨h1_⟩
          have n2_ : Aside0 (w17.heap[gb237]? = some (.cells #[.int .i64 0, .int .i64 0, .int .i64 0, .slice none 0 0] 35 (0, 0))) := ⟨h2_⟩
          have n3_ : Aside0 (IsS53 w0 w17 g s0_0 t242) := ⟨h3_⟩
          have n4_ : Aside0 (KeepBut w w17 g none) := ⟨h4_⟩
          have n5_ : Aside0 (Below w0.heap.size w0 w17) := ⟨h5_⟩
          clear BK237
          clear HI0
          clear HK
          clear HB
          clear h0_ h1_ h2_ h3_ h4_ h5_
          have HO240 := n0_
          have HO245 := n1_
          have BK237 := n2_
          have HI0 := n3_
          have HK := n4_
          have HB := n5_
          clear n0_ n1_ n2_ n3_ n4_ n5_
          have hHeld := trivial
          obtain ⟨Ao18, co18, eo18⟩ := Kd.R_slice HO245.out
          (first | subst eo18 | (injection eo18 with f1_ f2_ f3_; have f4_ := f1_.symm; have f5_ := f3_.symm; clear f1_ f2_ f3_; subst f4_; subst f5_))
          refine norm_ (a' := ?_) ?_ ?_
          rotate_left
          · simp only [putAll, Act.put, List.setIfInBounds_toArray, List.set_cons_zero, List.set_cons_succ]
            rfl
          refine one_ (i := 10) (N := some 7) #[true, true, true, true, true, true, true, true, true, true, true, false] rfl rfl (one_of HT_.out (by kernel_rfl)) (by decide) (fun K hK => ?_)
          refine box_step ?hg (N := 7) ?hd (cs := #[.int .i64 0, .int .i64 0, .int .i64 0, .slice none 0 0]) (t := 35) ?hr ?_; (case hd => rfl); (case hg => rfl); (case hr => first | (go_simp; done) | (go_simp; rfl))
          intro gb246 hg w19 hbox hb
          have n0_ := Aside0.mk (Kd.R_below q167_ hb)
          have n1_ := Aside0.mk (Kd.R_below q168_ hb)
          have n2_ := Aside0.mk (IsS53.below q82_ hb)
          have n3_ := Aside0.mk (blk_below (g := gb237) (o := .cells #[.int .i64 0, .int .i64 0, .int .i64 0, .slice none 0 0] 35 (0, 0)) q141_ hb)
          have n4_ := Aside0.mk (KeepBut.trans q89_ (KeepBut.of_below hb g none) (.inl rfl))
          have n5_ := Aside0.mk (below_step q69_ hb)
          have n6_ := Aside0.mk (hbox)
          have n7_ := Aside0.mk ((q42_ : w.heap.size ≤ gb246))
          have n8_ := Aside0.mk ((Nat.le_trans HW0.out (q42_ : w.heap.size ≤ gb246) : w0.heap.size ≤ gb246))
          have n9_ := Aside0.mk ((q38_ : gb237 ≠ gb246))
          have n10_ := Aside0.mk ((q39_ : gb246 ≠ gb237))
          have n11_ := Aside0.mk ((by rw [hg]; exact Nat.ne_of_lt (IsS53.lt (show IsS53 w0 _ g s0_0 t242 from by repeat (first | (with_reducible first | exact HI0.out | apply IsS53.alloc | apply IsS53.drewN | apply IsS53.drew | apply IsS53.set_1 | refine IsS53.far ?_ NB0_237.out _) | exact HI0.out))) : g ≠ gb246))
          have n12_ := Aside0.mk ((by rw [hg]; exact Nat.ne_of_gt (IsS53.lt (show IsS53 w0 _ g s0_0 t242 from by repeat (first | (with_reducible first | exact HI0.out | apply IsS53.alloc | apply IsS53.drewN | apply IsS53.drew | apply IsS53.set_1 | refine IsS53.far ?_ NB0_237.out _) | exact HI0.out))) : gb246 ≠ g))
          clear HO240
          clear HO245
          clear HI0
          clear BK237
          clear HK
          clear HB
          have HO240 := n0_
          have HO245 := n1_
          have HI0 := n2_
          have BK237 := n3_
          have HK := n4_
          have HB := n5_
          have BK246 := n6_
          have GW246 := n7_
          have GE246 := n8_
          have NB237_246 := n9_
          have NB246_237 := n10_
          have NB0_246 := n11_
          have NB246_0 := n12_
          clear n0_ n1_ n2_ n3_ n4_ n5_ n6_ n7_ n8_ n9_ n10_ n11_ n12_
          clear hb hbox hg
          refine hK.out _ _ trivial (fun hHeld => ?_)
          clear hK K
          refine norm_ (a' := ?_) ?_ ?_
          rotate_left
          · show Act.put _ (some 7) _ = _
            simp only [Act.put, List.setIfInBounds_toArray, List.set_cons_zero, List.set_cons_succ, i64_w, i32_w]
            rfl
          exact norm_ q62_ (hJ3_4_8_10 (v239, .slice Ao18 y243.length co18, gb246) _ ⟨q167_, q168_, q141_, q142_, GW246.out, GE246.out, NB0_246.out, NB246_0.out, NB237_246.out, NB246_237.out, q61_, q63_, q46_⟩)
      rintro ⟨v239, v244, gb246⟩ w18 ⟨h0_, h1_, h2_, h3_, h4_, h5_, h6_, h7_, h8_, h9_, h10_, h11_, h12_⟩
      have n0_ : Aside0 (Kd.R (Kd.int .i64) 3 w18 w.heap.size (fun k_ => some k_ ≠ (v244 : Value).ownBlock) v239 y238) := ⟨h0_⟩
      have n1_ : Aside0 (Kd.R (Kd.int .i64) 3 w18 w.heap.size (fun k_ => some k_ ≠ (v239 : Value).ownBlock) v244 y243) := ⟨h1_⟩
      have n2_ : Aside0 (w18.heap[gb237]? = some (.cells #[.int .i64 0, .int .i64 0, .int .i64 0, .slice none 0 0] 35 (0, 0))) := ⟨h2_⟩
      have n3_ : Aside0 (w18.heap[gb246]? = some (.cells #[.int .i64 0, .int .i64 0, .int .i64 0, .slice none 0 0] 35 (0, 0))) := ⟨h3_⟩
      have n4_ : Aside0 (w.heap.size ≤ gb246) := ⟨h4_⟩
      have n5_ : Aside0 (w0.heap.size ≤ gb246) := ⟨h5_⟩
      have n6_ : Aside0 (g ≠ gb246) := ⟨h6_⟩
      have n7_ : Aside0 (gb246 ≠ g) := ⟨h7_⟩
      have n8_ : Aside0 (gb237 ≠ gb246) := ⟨h8_⟩
      have n9_ : Aside0 (gb246 ≠ gb237) := ⟨h9_⟩
      have n10_ : Aside0 (IsS53 w0 w18 g s0_0 t242) := ⟨h10_⟩
      have n11_ : Aside0 (KeepBut w w18 g none) := ⟨h11_⟩
      have n12_ : Aside0 (Below w0.heap.size w0 w18) := ⟨h12_⟩
      clear BK237
      clear HI0
      clear HK
      clear HB
      clear h0_ h1_ h2_ h3_ h4_ h5_ h6_ h7_ h8_ h9_ h10_ h11_ h12_
      have HO240 := n0_
      have HO245 := n1_
      have BK237 := n2_
      have BK246 := n3_
      have GW246 := n4_
      have GE246 := n5_
      have NB0_246 := n6_
      have NB246_0 := n7_
      have NB237_246 := n8_
      have NB246_237 := n9_
      have HI0 := n10_
      have HK := n11_
      have HB := n12_
      clear n0_ n1_ n2_ n3_ n4_ n5_ n6_ n7_ n8_ n9_ n10_ n11_ n12_
      have hHeld := trivial
      obtain ⟨Ao19, co19, eo19⟩ := Kd.R_slice HO245.out
      (first | subst eo19 | (injection eo19 with f1_ f2_ f3_; have f4_ := f1_.symm; have f5_ := f3_.symm; clear f1_ f2_ f3_; subst f4_; subst f5_))
      refine norm_ (a' := ?_) ?_ ?_
      rotate_left
      · simp only [putAll, Act.put, List.setIfInBounds_toArray, List.set_cons_zero, List.set_cons_succ]
        rfl
      refine one_ (i := 11) (N := none) #[true, true, true, true, true, true, true, true, true, true, true, true] rfl rfl (one_of HT_.out (by kernel_rfl)) (by decide) (fun K hK => ?_)
      have hs20 : w18.cell? ⟨gb246, 0, none⟩ = some (.int .i64 0) := (blk_cell BK246.out 0).trans rfl
      have hfs20 := blk_frozen BK246.out 0
      have hns20_0 := NB237_246.out
      have hms20_0 := NB246_237.out
      have hs21 : w18.cell? ⟨gb246, 1, none⟩ = some (.int .i64 0) := (blk_cell BK246.out 1).trans rfl
      have hfs21 := blk_frozen BK246.out 1
      have hns21_0 := NB237_246.out
      have hms21_0 := NB246_237.out
      have hs22 : w18.cell? ⟨gb246, 2, none⟩ = some (.int .i64 0) := (blk_cell BK246.out 2).trans rfl
      have hfs22 := blk_frozen BK246.out 2
      have hns22_0 := NB237_246.out
      have hms22_0 := NB246_237.out
      have hs23 : w18.cell? ⟨gb246, 3, none⟩ = some (.slice none 0 0) := (blk_cell BK246.out 3).trans rfl
      have hfs23 := blk_frozen BK246.out 3
      have hns23_0 := NB237_246.out
      have hms23_0 := NB246_237.out
      refine skip_ (w1 := ?_) (by rfl) rfl ?_ ?_
      rotate_left
      · go_simp
        rfl
      refine hK.out _ _ trivial (fun hHeld => ?_)
      clear hK K
      refine done_ (done_of HT_.out (by kernel_rfl)) ?_
      try go_wp2
      go_loopg [8] k (fun kq v8 w' => ∃ (x8_1 : Int) (x1001_1 : Int) (x247003_1 : List Int) (u247003 : Value), v8 = .int .i64 x8_1 ∧ Aside0 (tilefarmgen_Tape_Sized.l0 kq x8_1 s0_0 x1001_1 a1 a2 t241 x247003_1 = some (r1, r2, r3, r4, r5)) ∧ Aside0 (kq ≤ k) ∧ Aside0 (Kd.R (Kd.int .i64) 3 w' w.heap.size (fun _ => True) u247003 x247003_1) ∧ Aside0 (w'.heap[gb237]? = some (.cells #[.int .i64 0, .int .i64 0, .int .i64 0, (.slice none 0 0)] 35 (0, 0))) ∧ Aside0 (w'.heap[gb246]? = some (.cells #[.int .i64 a1, .int .i64 a2, .int .i64 t241, u247003] 35 (0, 0))) ∧ Aside0 (IsS53 w0 w' g s0_0 x1001_1) ∧ Aside0 (KeepBut w w' g none) ∧ Aside0 (Below w0.heap.size w0 w'))
      case atStart => exact ⟨(0), (t242), (y243), (.slice Ao19 y243.length co19), q185_, H', ⟨Nat.le_refl _⟩, ⟨by (with_reducible repeat (first | apply Kd.R_alloc | apply Kd.R_drewN | apply Kd.R_drew)); exact Kd.R_mono (Kd.R_far (p := ⟨gb246, 3, none⟩) (Kd.R_far (p := ⟨gb246, 2, none⟩) (Kd.R_far (p := ⟨gb246, 1, none⟩) (Kd.R_far (p := ⟨gb246, 0, none⟩) (Kd.R_types HO245.out BK246.out (by decide)) (fun _ hk => hk.2) (.int .i64 a1)) (fun _ hk => hk.2) (.int .i64 a2)) (fun _ hk => hk.2) (.int .i64 t241)) (fun _ hk => hk.2) (.slice Ao19 y243.length co19)) (fun _ hk => trivial)⟩, ⟨by (with_reducible repeat (first | refine blk_drewN ?_ _ | refine blk_drew ?_ | refine blk_alloc ?_ _)); refine blk_far ?_ NB237_246.out _; (with_reducible repeat (first | refine blk_drewN ?_ _ | refine blk_drew ?_ | refine blk_alloc ?_ _)); refine blk_far ?_ NB237_246.out _; (with_reducible repeat (first | refine blk_drewN ?_ _ | refine blk_drew ?_ | refine blk_alloc ?_ _)); refine blk_far ?_ NB237_246.out _; (with_reducible repeat (first | refine blk_drewN ?_ _ | refine blk_drew ?_ | refine blk_alloc ?_ _)); refine blk_far ?_ NB237_246.out _; (with_reducible repeat (first | refine blk_drewN ?_ _ | refine blk_drew ?_ | refine blk_alloc ?_ _)); exact BK237.out⟩, ⟨by (with_reducible repeat (first | refine blk_drewN ?_ _ | refine blk_drew ?_ | refine blk_alloc ?_ _)); refine blk_put (cs := #[.int .i64 a1, .int .i64 a2, .int .i64 t241, .slice none 0 0]) ?_ 3 _ rfl; (with_reducible repeat (first | refine blk_drewN ?_ _ | refine blk_drew ?_ | refine blk_alloc ?_ _)); refine blk_put (cs := #[.int .i64 a1, .int .i64 a2, .int .i64 0, .slice none 0 0]) ?_ 2 _ rfl; (with_reducible repeat (first | refine blk_drewN ?_ _ | refine blk_drew ?_ | refine blk_alloc ?_ _)); refine blk_put (cs := #[.int .i64 a1, .int .i64 0, .int .i64 0, .slice none 0 0]) ?_ 1 _ rfl; (with_reducible repeat (first | refine blk_drewN ?_ _ | refine blk_drew ?_ | refine blk_alloc ?_ _)); refine blk_put (cs := #[.int .i64 0, .int .i64 0, .int .i64 0, .slice none 0 0]) ?_ 0 _ rfl; (with_reducible repeat (first | refine blk_drewN ?_ _ | refine blk_drew ?_ | refine blk_alloc ?_ _)); exact BK246.out⟩, ⟨q61_⟩, ⟨q63_⟩, ⟨q46_⟩⟩
      case round =>
        clear H'
        try clear c1
        try clear p2
        try clear c11
        obtain ⟨x8_1, x1001_1, x247003_1, u247003, rfl, HA, HK1, HO_247003, BK237, BK246, HI0, HK, HB⟩ := hrel
        cases gk with
        | zero => exact absurd HA.out (by simp [tilefarmgen_Tape_Sized.l0])
        | succ k1 =>
          have H := HA.out
          clear HA
          simp only [tilefarmgen_Tape_Sized.l0] at H
          by_cases c24 : x8_1 < (x247003_1.length : Int)
          · rw [if_pos c24] at H
            have c24b0 : decide (x8_1 < (x247003_1.length : Int)) = true := decide_eq_true c24
            clear c24
            replace H := Option.bind_eq_some_iff.mp H
            obtain ⟨⟨t247, t248⟩, A250, H⟩ := H
            replace H : ((tilefarmgen_Tape_Next.f s0_0 t248 (wrap64 (t241 + 1))).bind fun bt249 => ((tilefarmgen_Tape_Pick.f s0_0 bt249.2 (([t247, bt249.1, t241, 0] : List Int))).bind fun bt254 => (if 0 ≤ x8_1 then (tilefarmgen_Tape_Sized.l0 k1 (wrap64 (x8_1 + 1)) s0_0 bt254.2 a1 a2 t241 (x247003_1.set (x8_1 : Int).toNat bt254.1)) else (none)))) = some (r1, r2, r3, r4, r5) := H
            have A25 := Aside0.mk A250
            clear A250
            replace H := Option.bind_eq_some_iff.mp H
            obtain ⟨⟨t249, t250⟩, A260, H⟩ := H
            replace H : ((tilefarmgen_Tape_Pick.f s0_0 t250 (([t247, t249, t241, 0] : List Int))).bind fun bt254 => (if 0 ≤ x8_1 then (tilefarmgen_Tape_Sized.l0 k1 (wrap64 (x8_1 + 1)) s0_0 bt254.2 a1 a2 t241 (x247003_1.set (x8_1 : Int).toNat bt254.1)) else (none))) = some (r1, r2, r3, r4, r5) := H
            have A26 := Aside0.mk A260
            clear A260
            obtain ⟨y251, hy251⟩ : ∃ y_ : List Int, y_ = (([t247, t249, t241, 0] : List Int)) := ⟨_, rfl⟩
            replace H : ((tilefarmgen_Tape_Pick.f s0_0 t250 y251).bind fun bt254 => (if 0 ≤ x8_1 then (tilefarmgen_Tape_Sized.l0 k1 (wrap64 (x8_1 + 1)) s0_0 bt254.2 a1 a2 t241 (x247003_1.set (x8_1 : Int).toNat bt254.1)) else (none))) = some (r1, r2, r3, r4, r5) := by first | (rw [hy251]; with_reducible exact H) | (have H2_ := (Option.bind_some _ _).symm.trans H; rw [hy251]; with_reducible exact H2_) | (have H2_ := (Option.bind_some _ _).symm.trans H; with_reducible exact H2_) | with_reducible exact H | (rw [hy251]; exact H) | exact H
            have Ny251 := Aside0.mk hy251
            clear hy251
            replace H := Option.bind_eq_some_iff.mp H
            obtain ⟨⟨t254, t255⟩, A270, H⟩ := H
            replace H : (if 0 ≤ x8_1 then (tilefarmgen_Tape_Sized.l0 k1 (wrap64 (x8_1 + 1)) s0_0 t255 a1 a2 t241 (x247003_1.set (x8_1 : Int).toNat t254)) else (none)) = some (r1, r2, r3, r4, r5) := H
            have A27 := Aside0.mk A270
            clear A270
            by_cases c28 : 0 ≤ x8_1
            · rw [if_pos c28] at H
              have c28b0 : decide (0 ≤ x8_1) = true := decide_eq_true c28
              clear c28
              obtain ⟨y256, hy256⟩ : ∃ y_ : List Int, y_ = (x247003_1.set (x8_1 : Int).toNat t254) := ⟨_, rfl⟩
              replace H : (tilefarmgen_Tape_Sized.l0 k1 (wrap64 (x8_1 + 1)) s0_0 t255 a1 a2 t241 y256) = some (r1, r2, r3, r4, r5) := by first | (rw [hy256]; with_reducible exact H) | (have H2_ := (Option.bind_some _ _).symm.trans H; rw [hy256]; with_reducible exact H2_) | (have H2_ := (Option.bind_some _ _).symm.trans H; with_reducible exact H2_) | with_reducible exact H | (rw [hy256]; exact H) | exact H
              have Ny256 := Aside0.mk hy256
              clear hy256
              have H' := Aside0.mk H
              clear H
              have hnb30 := NB246_237.out
              have hnc30 := NB237_246.out
              have hnb31 := NB246_0.out
              have hnc31 := NB0_246.out
              have hcz32_0 : wr.cell? ⟨gb246, 0, none⟩ = some (.int .i64 a1) := (blk_cell BK246.out 0).trans rfl
              have hcz32_1 : wr.cell? ⟨gb246, 1, none⟩ = some (.int .i64 a2) := (blk_cell BK246.out 1).trans rfl
              have hcz32_2 : wr.cell? ⟨gb246, 2, none⟩ = some (.int .i64 t241) := (blk_cell BK246.out 2).trans rfl
              have hcz32_3 : wr.cell? ⟨gb246, 3, none⟩ = some (u247003) := (blk_cell BK246.out 3).trans rfl
              have hfz32_0 := blk_frozen BK246.out 0
              have hfz32_1 := blk_frozen BK246.out 1
              have hfz32_2 := blk_frozen BK246.out 2
              have hfz32_3 := blk_frozen BK246.out 3
              obtain ⟨Ao33, co33, eo33⟩ := Kd.R_slice HO_247003.out
              subst eo33
              try go_wp2
              have n0_ := Aside0.mk (Kd.R_drew HO_247003.out)
              have n1_ := Aside0.mk (blk_drew BK237.out)
              have n2_ := Aside0.mk (blk_drew BK246.out)
              have n3_ := Aside0.mk (IsS53.drew HI0.out)
              have n4_ := Aside0.mk (keep_drew HK.out)
              have n5_ := Aside0.mk (below_drew1 HB.out)
              clear HO_247003
              clear BK237
              clear BK246
              clear HI0
              clear HK
              clear HB
              have HO_247003 := n0_
              have BK237 := n1_
              have BK246 := n2_
              have HI0 := n3_
              have HK := n4_
              have HB := n5_
              clear n0_ n1_ n2_ n3_ n4_ n5_
              refine start_ (n := 20) (S := fun w' => w'.cell? ⟨gb246, 0, none⟩ = some (.int .i64 a1) ∧ w'.cell? ⟨gb246, 1, none⟩ = some (.int .i64 a2) ∧ w'.cell? ⟨gb246, 2, none⟩ = some (.int .i64 t241) ∧ w'.cell? ⟨gb246, 3, none⟩ = some (.slice Ao33 x247003_1.length co33)) (ds := [19]) #[false, false, false, false, false, false, false, false, false, false, false, false, false, false, false, false, false, false, false, false] (by kernel_rfl) rfl rfl ⟨(blk_cell BK246.out 0).trans rfl, (blk_cell BK246.out 1).trans rfl, (blk_cell BK246.out 2).trans rfl, (blk_cell BK246.out 3).trans rfl⟩ (fun hHeld => ?_); refine with_tabW tilefarmgen_Tape_Sized.tab5 tilefarmgen_Tape_Sized.bits5 (fun HT_ HW_ => ?_)
              generalize wr.drew = w34 at HO_247003 BK237 BK246 HI0 HK HB hHeld ⊢
              refine pure_ (i := 0) (N := some 26) (v := ?_) (a' := ?_) #[true, false, false, false, false, false, false, false, false, false, false, false, false, false, false, false, false, false, false, false] rfl rfl (any_of HT_.out (by kernel_rfl)) (fun _ _ _ h => h) (Or.inl ⟨by rfl, ?_⟩) ?_ ?_
              rotate_left
              · intro w'
                go_simp
                with_reducible rfl
              rotate_left
              · simp only [Act.put, List.setIfInBounds_toArray, List.set_cons_zero, List.set_cons_succ, i64_w, i32_w]
                rfl
              refine pure_ (i := 2) (N := some 28) (v := ?_) (a' := ?_) #[true, false, true, false, false, false, false, false, false, false, false, false, false, false, false, false, false, false, false, false] rfl rfl (any_of HT_.out (by kernel_rfl)) (fun _ _ _ h => h) (Or.inl ⟨by rfl, ?_⟩) ?_ ?_
              rotate_left
              · intro w'
                go_simp
                with_reducible rfl
              rotate_left
              · simp only [Act.put, List.setIfInBounds_toArray, List.set_cons_zero, List.set_cons_succ, i64_w, i32_w]
                rfl
              refine pure_ (i := 3) (N := some 29) (v := ?_) (a' := ?_) #[true, false, true, true, false, false, false, false, false, false, false, false, false, false, false, false, false, false, false, false] rfl rfl (any_of HT_.out (by kernel_rfl)) (fun _ _ _ h => h) (Or.inl ⟨by rfl, ?_⟩) ?_ ?_
              rotate_left
              · intro w'
                go_simp
                with_reducible rfl
              rotate_left
              · simp only [Act.put, List.setIfInBounds_toArray, List.set_cons_zero, List.set_cons_succ, i64_w, i32_w]
                rfl
              refine pure_ (i := 4) (N := some 30) (v := ?_) (a' := ?_) #[true, false, true, true, true, false, false, false, false, false, false, false, false, false, false, false, false, false, false, false] rfl rfl (any_of HT_.out (by kernel_rfl)) (fun _ _ _ h => h) (Or.inl ⟨by rfl, ?_⟩) ?_ ?_
              rotate_left
              · intro w'
                go_simp
                with_reducible rfl
              rotate_left
              · simp only [Act.put, List.setIfInBounds_toArray, List.set_cons_zero, List.set_cons_succ, i64_w, i32_w]
                rfl
              refine pure_ (i := 5) (N := some 31) (v := ?_) (a' := ?_) #[true, false, true, true, true, true, false, false, false, false, false, false, false, false, false, false, false, false, false, false] rfl rfl (any_of HT_.out (by kernel_rfl)) (fun _ _ _ h => h) (Or.inl ⟨by rfl, ?_⟩) ?_ ?_
              rotate_left
              · intro w'
                go_simp
                with_reducible rfl
              rotate_left
              · simp only [Act.put, List.setIfInBounds_toArray, List.set_cons_zero, List.set_cons_succ, i64_w, i32_w]
                rfl
              refine pure_ (i := 9) (N := some 35) (v := ?_) (a' := ?_) #[true, false, true, true, true, true, false, false, false, true, false, false, false, false, false, false, false, false, false, false] rfl rfl (any_of HT_.out (by kernel_rfl)) (fun _ _ _ h => h) (Or.inl ⟨by rfl, ?_⟩) ?_ ?_
              rotate_left
              · intro w'
                go_simp
                with_reducible rfl
              rotate_left
              · simp only [Act.put, List.setIfInBounds_toArray, List.set_cons_zero, List.set_cons_succ, i64_w, i32_w]
                rfl
              refine pure_ (i := 10) (N := some 36) (v := ?_) (a' := ?_) #[true, false, true, true, true, true, false, false, false, true, true, false, false, false, false, false, false, false, false, false] rfl rfl (any_of HT_.out (by kernel_rfl)) (fun _ _ _ h => h) (Or.inl ⟨by rfl, ?_⟩) ?_ ?_
              rotate_left
              · intro w'
                go_simp
                with_reducible rfl
              rotate_left
              · simp only [Act.put, List.setIfInBounds_toArray, List.set_cons_zero, List.set_cons_succ, i64_w, i32_w]
                rfl
              refine pure_ (i := 14) (N := some 40) (v := ?_) (a' := ?_) #[true, false, true, true, true, true, false, false, false, true, true, false, false, false, true, false, false, false, false, false] rfl rfl (any_of HT_.out (by kernel_rfl)) (fun _ _ _ h => h) (Or.inl ⟨by rfl, ?_⟩) ?_ ?_
              rotate_left
              · intro w'
                go_simp
                with_reducible rfl
              rotate_left
              · simp only [Act.put, List.setIfInBounds_toArray, List.set_cons_zero, List.set_cons_succ, i64_w, i32_w]
                rfl
              refine take_ (i := 1) (N := some 27) (v := ?_) (a' := ?_) #[true, true, true, true, true, true, false, false, false, true, true, false, false, false, true, false, false, false, false, false] rfl rfl (take_ofW HT_.out HW_.out (by kernel_rfl)) (fun _ _ _ h => h) (Or.inl ⟨by rfl, ?_⟩) hHeld ?_ ?_
              rotate_left
              · rintro w' ⟨s0, s1, s2, s3⟩
                go_simp
                with_reducible rfl
              rotate_left
              · simp only [Act.put, List.setIfInBounds_toArray, List.set_cons_zero, List.set_cons_succ, i64_w, i32_w]
                rfl
              refine take_ (i := 6) (N := some 32) (v := ?_) (a' := ?_) #[true, true, true, true, true, true, true, false, false, true, true, false, false, false, true, false, false, false, false, false] rfl rfl (take_ofW HT_.out HW_.out (by kernel_rfl)) (fun _ _ _ h => h) (Or.inl ⟨by rfl, ?_⟩) hHeld ?_ ?_
              rotate_left
              · rintro w' ⟨s0, s1, s2, s3⟩
                go_simp
                with_reducible rfl
              rotate_left
              · simp only [Act.put, List.setIfInBounds_toArray, List.set_cons_zero, List.set_cons_succ, i64_w, i32_w]
                rfl
              refine pure_ (i := 7) (N := some 33) (v := ?_) (a' := ?_) #[true, true, true, true, true, true, true, true, false, true, true, false, false, false, true, false, false, false, false, false] rfl rfl (any_of HT_.out (by kernel_rfl)) (fun _ _ _ h => h) (Or.inl ⟨by rfl, ?_⟩) ?_ ?_
              rotate_left
              · intro w'
                go_simp
                with_reducible rfl
              rotate_left
              · simp only [Act.put, List.setIfInBounds_toArray, List.set_cons_zero, List.set_cons_succ, i64_w, i32_w]
                rfl
              refine take_ (i := 11) (N := some 37) (v := ?_) (a' := ?_) #[true, true, true, true, true, true, true, true, false, true, true, true, false, false, true, false, false, false, false, false] rfl rfl (take_ofW HT_.out HW_.out (by kernel_rfl)) (fun _ _ _ h => h) (Or.inl ⟨by rfl, ?_⟩) hHeld ?_ ?_
              rotate_left
              · rintro w' ⟨s0, s1, s2, s3⟩
                go_simp
                with_reducible rfl
              rotate_left
              · simp only [Act.put, List.setIfInBounds_toArray, List.set_cons_zero, List.set_cons_succ, i64_w, i32_w]
                rfl
              refine pure_ (i := 12) (N := some 38) (v := ?_) (a' := ?_) #[true, true, true, true, true, true, true, true, false, true, true, true, true, false, true, false, false, false, false, false] rfl rfl (any_of HT_.out (by kernel_rfl)) (fun _ _ _ h => h) (Or.inl ⟨by rfl, ?_⟩) ?_ ?_
              rotate_left
              · intro w'
                go_simp
                with_reducible rfl
              rotate_left
              · simp only [Act.put, List.setIfInBounds_toArray, List.set_cons_zero, List.set_cons_succ, i64_w, i32_w]
                rfl
              refine take_ (i := 15) (N := some 41) (v := ?_) (a' := ?_) #[true, true, true, true, true, true, true, true, false, true, true, true, true, false, true, true, false, false, false, false] rfl rfl (take_ofW HT_.out HW_.out (by kernel_rfl)) (fun _ _ _ h => h) (Or.inl ⟨by rfl, ?_⟩) hHeld ?_ ?_
              rotate_left
              · rintro w' ⟨s0, s1, s2, s3⟩
                go_simp
                with_reducible rfl
              rotate_left
              · simp only [Act.put, List.setIfInBounds_toArray, List.set_cons_zero, List.set_cons_succ, i64_w, i32_w]
                rfl
              refine one_ (i := 8) (N := some 34) #[true, true, true, true, true, true, true, true, true, true, true, true, true, false, true, true, false, false, false, false] rfl rfl (one_of HT_.out (by kernel_rfl)) (by decide) (fun K hK => ?_)
              refine goes_ Try.func10 (by kernel_rfl) rfl #[.pointer (some ⟨g, 0, none⟩), .int .i64 (wrap64 (t241 + 1))] (by rfl) rfl rfl q117_ ?_
              with_reducible refine (tilefarmgen_Tape_Next.calls g s0_0 x1001_1 (wrap64 (t241 + 1)) t247 t248 w0 _ ?side1 ?side2 A25.out).mono ?_
              (case side1 => repeat (first | (with_reducible first | exact HI0.out | apply IsS53.alloc | apply IsS53.drewN | apply IsS53.drew | apply IsS53.set_1 | refine IsS53.far ?_ NB0_237.out _ | refine IsS53.far ?_ NB0_246.out _) | exact HI0.out))
              (case side2 => repeat (first | (with_reducible first | exact HB.out | apply below_alloc | apply pw_below_drewN | apply below_drew1 | refine below_set ?_ (IsS53.ge HI0.out) | refine below_set ?_ GE237.out | refine below_set ?_ GE246.out) | exact HB.out))
              rintro e w35 ⟨rfl, hi, hb, hk⟩
              refine ⟨_, rfl, ?_⟩
              have n0_ := Aside0.mk (Kd.R_mono (Kd.R_keep (IsS53.apart (show IsS53 w0 _ g s0_0 x1001_1 from by repeat (first | (with_reducible first | exact HI0.out | apply IsS53.alloc | apply IsS53.drewN | apply IsS53.drew | apply IsS53.set_1 | refine IsS53.far ?_ NB0_237.out _ | refine IsS53.far ?_ NB0_246.out _) | exact HI0.out)) q159_ (by decide)) hk (fun _ h => h.2)) (fun _ h => h.1))
              have n1_ := Aside0.mk (KeepBut.blk hk (g' := gb237) (o := .cells #[.int .i64 0, .int .i64 0, .int .i64 0, .slice none 0 0] 35 (0, 0)) q141_ NB237_0.out (by simp))
              have n2_ := Aside0.mk (KeepBut.blk hk (g' := gb246) (o := .cells #[.int .i64 a1, .int .i64 a2, .int .i64 t241, .slice Ao33 x247003_1.length co33] 35 (0, 0)) q142_ NB246_0.out (by simp))
              have n3_ := Aside0.mk (KeepBut.trans q63_ hk (.inl rfl))
              have n4_ := Aside0.mk (hb)
              have n5_ := Aside0.mk (hi)
              clear HO_247003
              clear BK237
              clear BK246
              clear HK
              clear HB
              clear HI0
              have HO_247003 := n0_
              have BK237 := n1_
              have BK246 := n2_
              have HK := n3_
              have HB := n4_
              have HI0 := n5_
              clear n0_ n1_ n2_ n3_ n4_ n5_
              (try clear hb)
              (try clear hb2)
              (try clear hk)
              (try clear hi)
              refine hK.out _ _ ⟨(blk_cell BK246.out 0).trans rfl, (blk_cell BK246.out 1).trans rfl, (blk_cell BK246.out 2).trans rfl, (blk_cell BK246.out 3).trans rfl⟩ (fun hHeld => ?_)
              clear hK K
              refine norm_ (a' := ?_) ?_ ?_
              rotate_left
              · show Act.put _ (some 34) _ = _
                simp only [Act.put, List.setIfInBounds_toArray, List.set_cons_zero, List.set_cons_succ, i64_w, i32_w]
                rfl
              refine one_ (i := 13) (N := some 39) #[true, true, true, true, true, true, true, true, true, true, true, true, true, true, true, true, false, false, false, false] rfl rfl (one_of HT_.out (by kernel_rfl)) (by decide) (fun K hK => ?_)
              refine goes_ Try.func10 (by kernel_rfl) rfl #[.pointer (some ⟨g, 0, none⟩), .int .i64 (wrap64 (t241 + 1))] (by rfl) rfl rfl q117_ ?_
              with_reducible refine (tilefarmgen_Tape_Next.calls g s0_0 t248 (wrap64 (t241 + 1)) t249 t250 w0 _ ?side1 ?side2 A26.out).mono ?_
              (case side1 => repeat (first | (with_reducible first | exact HI0.out | apply IsS53.alloc | apply IsS53.drewN | apply IsS53.drew | apply IsS53.set_1 | refine IsS53.far ?_ NB0_237.out _ | refine IsS53.far ?_ NB0_246.out _) | exact HI0.out))
              (case side2 => repeat (first | (with_reducible first | exact HB.out | apply below_alloc | apply pw_below_drewN | apply below_drew1 | refine below_set ?_ (IsS53.ge HI0.out) | refine below_set ?_ GE237.out | refine below_set ?_ GE246.out) | exact HB.out))
              rintro e w36 ⟨rfl, hi, hb, hk⟩
              refine ⟨_, rfl, ?_⟩
              have n0_ := Aside0.mk (Kd.R_mono (Kd.R_keep (IsS53.apart (show IsS53 w0 _ g s0_0 t248 from by repeat (first | (with_reducible first | exact HI0.out | apply IsS53.alloc | apply IsS53.drewN | apply IsS53.drew | apply IsS53.set_1 | refine IsS53.far ?_ NB0_237.out _ | refine IsS53.far ?_ NB0_246.out _) | exact HI0.out)) q159_ (by decide)) hk (fun _ h => h.2)) (fun _ h => h.1))
              have n1_ := Aside0.mk (KeepBut.blk hk (g' := gb237) (o := .cells #[.int .i64 0, .int .i64 0, .int .i64 0, .slice none 0 0] 35 (0, 0)) q141_ NB237_0.out (by simp))
              have n2_ := Aside0.mk (KeepBut.blk hk (g' := gb246) (o := .cells #[.int .i64 a1, .int .i64 a2, .int .i64 t241, .slice Ao33 x247003_1.length co33] 35 (0, 0)) q142_ NB246_0.out (by simp))
              have n3_ := Aside0.mk (KeepBut.trans q63_ hk (.inl rfl))
              have n4_ := Aside0.mk (hb)
              have n5_ := Aside0.mk (hi)
              clear HO_247003
              clear BK237
              clear BK246
              clear HK
              clear HB
              clear HI0
              have HO_247003 := n0_
              have BK237 := n1_
              have BK246 := n2_
              have HK := n3_
              have HB := n4_
              have HI0 := n5_
              clear n0_ n1_ n2_ n3_ n4_ n5_
              (try clear hb)
              (try clear hb2)
              (try clear hk)
              (try clear hi)
              refine hK.out _ _ ⟨(blk_cell BK246.out 0).trans rfl, (blk_cell BK246.out 1).trans rfl, (blk_cell BK246.out 2).trans rfl, (blk_cell BK246.out 3).trans rfl⟩ (fun hHeld => ?_)
              clear hK K
              refine norm_ (a' := ?_) ?_ ?_
              rotate_left
              · show Act.put _ (some 39) _ = _
                simp only [Act.put, List.setIfInBounds_toArray, List.set_cons_zero, List.set_cons_succ, i64_w, i32_w]
                rfl
              refine one_ (i := 16) (N := some 42) #[true, true, true, true, true, true, true, true, true, true, true, true, true, true, true, true, true, false, false, false] rfl rfl (one_of HT_.out (by kernel_rfl)) (by decide) (fun K hK => ?_)
              refine Kd.R_lit_step (Kd.int .i64) _ 3 ?hg (N := 42) ?hd (xs := ([t247, t249, t241, 0] : List Int)) (inner := [.int .i64 t247, .int .i64 t249, .int .i64 t241, .int .i64 0]) (ok := fun _ => True) (okp := fun _ => True) ?hr ?hp (fun _ hk => hk) trivial (Below.refl _ _) (Nat.le_refl _) (by simp) ?_; (case hd => rfl); (case hg => rfl); (case hr => first | (go_simp; done) | (go_simp; rfl)); (case hp => exact (Reps.one (show Kd.M (Kd.int .i64) _ _ _ t247 [.int .i64 t247] from rfl) (Reps.one (show Kd.M (Kd.int .i64) _ _ _ t249 [.int .i64 t249] from rfl) (Reps.one (show Kd.M (Kd.int .i64) _ _ _ t241 [.int .i64 t241] from rfl) (Reps.one (show Kd.M (Kd.int .i64) _ _ _ 0 [.int .i64 0] from rfl) (Reps.none _ _))))))
              intro v252 w37 ho38 hb hg_ hnew_
              clear hg_ hnew_
              (first | rw [← Ny251.out] at ho38 | (simp only [Int.reduceToNat] at ho38; rw [← Ny251.out] at ho38))
              have n0_ := Aside0.mk (Kd.R_elder' q159_ (Kd.R_base ho38) hb)
              have n1_ := Aside0.mk (Kd.R_lower (Kd.R_new' ho38 (Kd.R_lt q159_)) (keep_size (w := w) (g := g) (row := none) q63_))
              have n2_ := Aside0.mk (blk_below (g := gb237) (o := .cells #[.int .i64 0, .int .i64 0, .int .i64 0, .slice none 0 0] 35 (0, 0)) q141_ hb)
              have n3_ := Aside0.mk (blk_below (g := gb246) (o := .cells #[.int .i64 a1, .int .i64 a2, .int .i64 t241, .slice Ao33 x247003_1.length co33] 35 (0, 0)) q142_ hb)
              have n4_ := Aside0.mk (IsS53.below q61_ hb)
              have n5_ := Aside0.mk (KeepBut.trans q63_ (KeepBut.of_below hb g none) (.inl rfl))
              have n6_ := Aside0.mk (below_step q46_ hb)
              clear HO_247003
              clear BK237
              clear BK246
              clear HI0
              clear HK
              clear HB
              have HO_247003 := n0_
              have HO253 := n1_
              have BK237 := n2_
              have BK246 := n3_
              have HI0 := n4_
              have HK := n5_
              have HB := n6_
              clear n0_ n1_ n2_ n3_ n4_ n5_ n6_
              clear hb ho38
              obtain ⟨Ao39, co39, eo39⟩ := Kd.R_slice HO253.out
              (first | subst eo39 | (injection eo39 with f1_ f2_ f3_; have f4_ := f1_.symm; have f5_ := f3_.symm; clear f1_ f2_ f3_; subst f4_; subst f5_))
              refine hK.out _ _ ⟨(blk_cell BK246.out 0).trans rfl, (blk_cell BK246.out 1).trans rfl, (blk_cell BK246.out 2).trans rfl, (blk_cell BK246.out 3).trans rfl⟩ (fun hHeld => ?_)
              clear hK K
              refine norm_ (a' := ?_) ?_ ?_
              rotate_left
              · show Act.put _ (some 42) _ = _
                simp only [Act.put, List.setIfInBounds_toArray, List.set_cons_zero, List.set_cons_succ, i64_w, i32_w]
                rfl
              refine one_ (i := 17) (N := some 43) #[true, true, true, true, true, true, true, true, true, true, true, true, true, true, true, true, true, true, false, false] rfl rfl (one_of HT_.out (by kernel_rfl)) (by decide) (fun K hK => ?_)
              refine goes_ Try.func11 (by kernel_rfl) rfl #[.pointer (some ⟨g, 0, none⟩), .slice Ao39 y251.length co39] (by rfl) rfl rfl q117_ ?_
              with_reducible refine (tilefarmgen_Tape_Pick.calls g s0_0 t250 _ _ y251 t254 t255 w0 _ ?side1 ?side2 ?side3 ?side4 ?side5 A27.out).mono ?_
              (case side1 => repeat (first | (with_reducible first | exact HI0.out | apply IsS53.alloc | apply IsS53.drewN | apply IsS53.drew | apply IsS53.set_1 | refine IsS53.far ?_ NB0_237.out _ | refine IsS53.far ?_ NB0_246.out _) | exact HI0.out))
              (case side2 => repeat (first | (with_reducible first | exact HB.out | apply below_alloc | apply pw_below_drewN | apply below_drew1 | refine below_set ?_ (IsS53.ge HI0.out) | refine below_set ?_ GE237.out | refine below_set ?_ GE246.out) | exact HB.out))
              (case side3 => repeat (first | exact (Kd.R_reads' HO253.out).2.2 | (with_reducible refine Kd.C_alloc ?_ _) | (with_reducible refine Kd.C_drewN ?_ _) | (with_reducible refine Kd.C_drew ?_)))
              (case side4 => exact (Kd.R_reads' HO253.out).2.1)
              (case side5 => exact far_slice (IsS53.own_ne HI0.out HO253.out (by decide)))
              rintro e w40 ⟨rfl, hi, hb, hk⟩
              refine ⟨_, rfl, ?_⟩
              have n0_ := Aside0.mk (Kd.R_mono (Kd.R_keep (IsS53.apart (show IsS53 w0 _ g s0_0 t250 from by repeat (first | (with_reducible first | exact HI0.out | apply IsS53.alloc | apply IsS53.drewN | apply IsS53.drew | apply IsS53.set_1 | refine IsS53.far ?_ NB0_237.out _ | refine IsS53.far ?_ NB0_246.out _) | exact HI0.out)) q159_ (by decide)) hk (fun _ h => h.2)) (fun _ h => h.1))
              have n1_ := Aside0.mk (KeepBut.blk hk (g' := gb237) (o := .cells #[.int .i64 0, .int .i64 0, .int .i64 0, .slice none 0 0] 35 (0, 0)) q141_ NB237_0.out (by simp))
              have n2_ := Aside0.mk (KeepBut.blk hk (g' := gb246) (o := .cells #[.int .i64 a1, .int .i64 a2, .int .i64 t241, .slice Ao33 x247003_1.length co33] 35 (0, 0)) q142_ NB246_0.out (by simp))
              have n3_ := Aside0.mk (Kd.R_mono (Kd.R_keep (IsS53.apart (show IsS53 w0 _ g s0_0 t250 from by repeat (first | (with_reducible first | exact HI0.out | apply IsS53.alloc | apply IsS53.drewN | apply IsS53.drew | apply IsS53.set_1 | refine IsS53.far ?_ NB0_237.out _ | refine IsS53.far ?_ NB0_246.out _) | exact HI0.out)) (by (with_reducible repeat (first | apply Kd.R_alloc | apply Kd.R_drewN | apply Kd.R_drew)); exact HO253.out) (by decide)) hk (fun _ h => h.2)) (fun _ h => h.1))
              have n4_ := Aside0.mk (KeepBut.trans q63_ hk (.inl rfl))
              have n5_ := Aside0.mk (hb)
              have n6_ := Aside0.mk (hi)
              clear HO_247003
              clear BK237
              clear BK246
              clear HO253
              clear HK
              clear HB
              clear HI0
              have HO_247003 := n0_
              have BK237 := n1_
              have BK246 := n2_
              have HO253 := n3_
              have HK := n4_
              have HB := n5_
              have HI0 := n6_
              clear n0_ n1_ n2_ n3_ n4_ n5_ n6_
              (try clear hb)
              (try clear hb2)
              (try clear hk)
              (try clear hi)
              have p29 : 0 ≤ (x8_1 : Int) := of_decide_eq_true q184_
              have q29 : (x8_1 : Int) < ((x247003_1.length : Int) : Int) := of_decide_eq_true q184_
              obtain ⟨go29, co29, eo29, gb29, gl29, cl29, HG29⟩ := Kd.R_form HO_247003.out (by omega)
              (first | cases eo29 | (injection eo29 with ea_ en_ ec_; (first | subst ea_ | (injection ea_ with ea_; subst ea_)); subst ec_; clear en_))
              have GB29 := Aside0.mk gb29
              have GG29 := Aside0.mk HG29
              clear gb29 gl29 HG29
              obtain ⟨hx29_0, hf29_0⟩ := Kd.R_celln 0 HO_247003.out (x8_1 : Int) p29 q29
              replace p29 := eq_true p29
              replace q29 := eq_true q29
              have HN0_go29 := Aside0.mk (show g ≠ go29 from by have h_ := IsS53.own_ne HI0.out HO_247003.out (by decide); intro e_; exact h_ (by rw [e_]; rfl))
              have HP41 := Kd.R_putn HO_247003.out (x8_1 : Int) t254
              rw [← Ny256.out] at HP41
              have HQ41 := Aside0.mk HP41
              clear HP41
              refine hK.out _ _ ⟨(blk_cell BK246.out 0).trans rfl, (blk_cell BK246.out 1).trans rfl, (blk_cell BK246.out 2).trans rfl, (blk_cell BK246.out 3).trans rfl⟩ (fun hHeld => ?_)
              clear hK K
              refine norm_ (a' := ?_) ?_ ?_
              rotate_left
              · show Act.put _ (some 43) _ = _
                simp only [Act.put, List.setIfInBounds_toArray, List.set_cons_zero, List.set_cons_succ, i64_w, i32_w]
                rfl
              refine pure_ (i := 18) (N := some 44) (v := ?_) (a' := ?_) #[true, true, true, true, true, true, true, true, true, true, true, true, true, true, true, true, true, true, true, false] rfl rfl (any_of HT_.out (by kernel_rfl)) (fun _ _ _ h => h) (Or.inl ⟨by rfl, ?_⟩) ?_ ?_
              rotate_left
              · intro w'
                go_simp
                with_reducible rfl
              rotate_left
              · simp only [Act.put, List.setIfInBounds_toArray, List.set_cons_zero, List.set_cons_succ, i64_w, i32_w]
                rfl
              refine last_ (i := 19) (N := none) #[true, true, true, true, true, true, true, true, true, true, true, true, true, true, true, true, true, true, true, true] rfl rfl (one_of HT_.out (by kernel_rfl)) (by decide) (fun K hK => ?_)
              refine skip_ (w1 := ?_) (by rfl) rfl ?_ ?_
              rotate_left
              · go_simp
                rfl
              refine hK.out _ _ ?_
              clear hK K
              refine done_ (done_of HT_.out (by kernel_rfl)) ?_
              try go_wp2
              go_roundg k1
              case measure => have := HK1.out; omega
              case rel => exact ⟨(wrap64 (x8_1 + 1)), (t255), (y256), (.slice (some ⟨go29, 0, none⟩) x247003_1.length co33), q185_, (by first | exact H' | ((try (rw [hji5])); exact H')), ⟨by have := HK1.out; omega⟩, ⟨by (with_reducible repeat (first | apply Kd.R_alloc | apply Kd.R_drewN | apply Kd.R_drew)); exact Kd.R_mono HQ41.out (fun _ hk => trivial)⟩, ⟨by (with_reducible repeat (first | refine blk_drewN ?_ _ | refine blk_drew ?_ | refine blk_alloc ?_ _)); refine blk_far ?_ (by have h_ := Kd.R_ne HO_247003.out BK237.out (by decide); intro e_; exact h_ (by rw [e_]; rfl)) _; (with_reducible repeat (first | refine blk_drewN ?_ _ | refine blk_drew ?_ | refine blk_alloc ?_ _)); exact BK237.out⟩, ⟨by (with_reducible repeat (first | refine blk_drewN ?_ _ | refine blk_drew ?_ | refine blk_alloc ?_ _)); refine blk_far ?_ (by have h_ := Kd.R_ne HO_247003.out BK246.out (by decide); intro e_; exact h_ (by rw [e_]; rfl)) _; (with_reducible repeat (first | refine blk_drewN ?_ _ | refine blk_drew ?_ | refine blk_alloc ?_ _)); exact BK246.out⟩, ⟨by repeat (first | (with_reducible first | exact HI0.out | apply IsS53.alloc | apply IsS53.drewN | apply IsS53.drew | apply IsS53.set_1 | refine IsS53.far ?_ HN0_go29.out _ | refine IsS53.far ?_ NB0_237.out _ | refine IsS53.far ?_ NB0_246.out _) | exact HI0.out)⟩, ⟨by repeat (first | (with_reducible first | exact HK.out | apply KeepBut.set_ | apply keep_drewN | apply keep_drew | apply keep_alloc | refine keep_far ?_ GB29.out _ | refine keep_far ?_ GW237.out _ | refine keep_far ?_ GW246.out _) | exact HK.out)⟩, ⟨by repeat (first | (with_reducible first | exact HB.out | apply below_alloc | apply pw_below_drewN | apply below_drew1 | refine below_set ?_ (Nat.le_trans HL.out GB29.out) | refine below_set ?_ (IsS53.ge HI0.out) | refine below_set ?_ GE237.out | refine below_set ?_ GE246.out) | exact HB.out)⟩⟩
            · rw [if_neg c28] at H
              exact absurd H (by simp)
          · rw [if_neg c24] at H
            have c24b0 : decide (x8_1 < (x247003_1.length : Int)) = false := decide_eq_false c24
            clear c24
            simp only [Option.some.injEq, Prod.mk.injEq] at H
            obtain ⟨rfl, rfl, rfl, rfl, rfl⟩ := H
            have hnb42 := NB246_237.out
            have hnc42 := NB237_246.out
            have hnb43 := NB246_0.out
            have hnc43 := NB0_246.out
            have hcz44_0 : wr.cell? ⟨gb246, 0, none⟩ = some (.int .i64 a1) := (blk_cell BK246.out 0).trans rfl
            have hcz44_1 : wr.cell? ⟨gb246, 1, none⟩ = some (.int .i64 a2) := (blk_cell BK246.out 1).trans rfl
            have hcz44_2 : wr.cell? ⟨gb246, 2, none⟩ = some (.int .i64 t241) := (blk_cell BK246.out 2).trans rfl
            have hcz44_3 : wr.cell? ⟨gb246, 3, none⟩ = some (u247003) := (blk_cell BK246.out 3).trans rfl
            have hfz44_0 := blk_frozen BK246.out 0
            have hfz44_1 := blk_frozen BK246.out 1
            have hfz44_2 := blk_frozen BK246.out 2
            have hfz44_3 := blk_frozen BK246.out 3
            obtain ⟨Ao45, co45, eo45⟩ := Kd.R_slice HO_247003.out
            subst eo45
            have hnb46 := NB237_0.out
            have hnc46 := NB0_237.out
            have hcz47_0 : wr.cell? ⟨gb237, 0, none⟩ = some (.int .i64 0) := (blk_cell BK237.out 0).trans rfl
            have hcz47_1 : wr.cell? ⟨gb237, 1, none⟩ = some (.int .i64 0) := (blk_cell BK237.out 1).trans rfl
            have hcz47_2 : wr.cell? ⟨gb237, 2, none⟩ = some (.int .i64 0) := (blk_cell BK237.out 2).trans rfl
            have hcz47_3 : wr.cell? ⟨gb237, 3, none⟩ = some (.slice none 0 0) := (blk_cell BK237.out 3).trans rfl
            have hfz47_0 := blk_frozen BK237.out 0
            have hfz47_1 := blk_frozen BK237.out 1
            have hfz47_2 := blk_frozen BK237.out 2
            have hfz47_3 := blk_frozen BK237.out 3
            go_wp2
            refine bodyPost_ret (results_cell_row rfl _ _ gb237 35 #[.int .i64 a1, .int .i64 a2, .int .i64 t241, .slice Ao45 x247003_1.length co45] (0, 0) _ rfl (by (with_reducible repeat (first | refine blk_drewN ?_ _ | refine blk_drew ?_ | refine blk_alloc ?_ _)); refine blk_put (cs := #[.int .i64 a1, .int .i64 a2, .int .i64 t241, .slice none 0 0]) ?_ 3 _ rfl; (with_reducible repeat (first | refine blk_drewN ?_ _ | refine blk_drew ?_ | refine blk_alloc ?_ _)); refine blk_put (cs := #[.int .i64 a1, .int .i64 a2, .int .i64 0, .slice none 0 0]) ?_ 2 _ rfl; (with_reducible repeat (first | refine blk_drewN ?_ _ | refine blk_drew ?_ | refine blk_alloc ?_ _)); refine blk_put (cs := #[.int .i64 a1, .int .i64 0, .int .i64 0, .slice none 0 0]) ?_ 1 _ rfl; (with_reducible repeat (first | refine blk_drewN ?_ _ | refine blk_drew ?_ | refine blk_alloc ?_ _)); refine blk_put (cs := #[.int .i64 0, .int .i64 0, .int .i64 0, .slice none 0 0]) ?_ 0 _ rfl; (with_reducible repeat (first | refine blk_drewN ?_ _ | refine blk_drew ?_ | refine blk_alloc ?_ _)); exact BK237.out) Try.underlying35 rfl (by kernel_rfl)) rfl ?_
            exact ⟨_, by first | rfl | (simp [errW_none, errW_some] <;> rfl) | (simp only [← hji5]; first | rfl | (simp [errW_none, errW_some] <;> rfl)) | (simp [*, errW_none, errW_some] <;> rfl), by (with_reducible repeat (first | apply Kd.R_alloc | apply Kd.R_drewN | apply Kd.R_drew)); exact Kd.R_mono (Kd.R_far (p := ⟨gb237, 3, none⟩) (Kd.R_far (p := ⟨gb237, 2, none⟩) (Kd.R_far (p := ⟨gb237, 1, none⟩) (Kd.R_far (p := ⟨gb237, 0, none⟩) (Kd.R_types HO_247003.out BK237.out (by decide)) (fun _ hk => hk.2) (.int .i64 a1)) (fun _ hk => hk.2) (.int .i64 a2)) (fun _ hk => hk.2) (.int .i64 t241)) (fun _ hk => hk.2) (.slice Ao45 x247003_1.length co45)) (fun _ hk => trivial), q61_, q46_, q63_⟩
    · rw [if_neg c7] at H
      exact absurd H (by simp)
  · rw [if_neg c6] at H
    exact absurd H (by simp)

end Go.Proofs.Ytcfllciehmgikaa.PSeparableTurns
