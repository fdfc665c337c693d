-- Written by a program of the session (wip/tools/myprint.py) over the kit's printer; checked by Lean.
import Derived.Test.YtoamkepelnphaaaPIeeeQuantizesx0
import Derived.Test.YtoamkepelnphaaaPIeeeQuantizesx1
namespace Go.Proofs.Ytoamkepelnphaaa.PIeeeQuantizes
open Go.RowKit Go.Proofs.YtoamkepelnphaaaW.PrintWords Go.Proofs.YtoamkepelnphaaaW.PrintLast Go.Proofs.YtoamkepelnphaaaW.PrintMore
attribute [local go_sem] max2_int min2_int max_two min_two max_three min_three max_four min_four   -- for this text's walks alone
set_option linter.unusedVariables false
set_option linter.unusedSimpArgs false

/-! ### ieee_Scale: function 12 -/
mutual
def ieee_Scale.j2 : Nat → Int → Int → Option (Int × Int)
  | 0, _, _ => none
  | k + 1, x6, x9 => if x9 > 32767 then (some (0, 3)) else (if x6 < 0 then (some (wrap64 (-x9), 0)) else (some (x9, 0)))
def ieee_Scale.j0 : Nat → Int → Int → Int → Bool → Option (Int × Int)
  | 0, _, _, _, _ => none
  | k + 1, x6, x7, x9, x61 => if x61 = true then (some (0, 3)) else (if x7 ≥ 0 then (if 0 ≤ x7 then (ieee_Scale.j1 k x6 x7 x9 (decide (x9 > (shr .i64 32767 x7)))) else (none)) else (ieee_Scale.j1 k x6 x7 x9 false))
def ieee_Scale.j1 : Nat → Int → Int → Int → Bool → Option (Int × Int)
  | 0, _, _, _, _ => none
  | k + 1, x6, x7, x9, x68 => if x68 = true then (some (0, 3)) else (if x7 ≥ 0 then (if 0 ≤ x7 then (ieee_Scale.j2 k x6 (shl .i64 x9 x7)) else (none)) else (if x7 < (-60) then (ieee_Scale.j2 k x6 0) else (if 0 ≤ (wrap64 (-x7)) then (if 0 ≤ (wrap64 ((wrap64 (-x7)) - 1)) then (if (Go.bits .and .i64 x9 (wrap64 ((shl .i64 1 (wrap64 (-x7))) - 1))) > (shl .i64 1 (wrap64 ((wrap64 (-x7)) - 1))) then (ieee_Scale.j2 k x6 (wrap64 ((shr .i64 x9 (wrap64 (-x7))) + 1))) else (if (Go.bits .and .i64 x9 (wrap64 ((shl .i64 1 (wrap64 (-x7))) - 1))) = (shl .i64 1 (wrap64 ((wrap64 (-x7)) - 1))) then (if (Int.tmod (shr .i64 x9 (wrap64 (-x7))) 2) = 1 then (ieee_Scale.j2 k x6 (wrap64 ((shr .i64 x9 (wrap64 (-x7))) + 1))) else (ieee_Scale.j2 k x6 (shr .i64 x9 (wrap64 (-x7))))) else (ieee_Scale.j2 k x6 (shr .i64 x9 (wrap64 (-x7)))))) else (none)) else (none))))
end
def ieee_Scale.f (k : Nat) (a0 : Int) (a1 : Int) : Option (Int × Int) := (ieee_shiftable.f a1).bind fun t111 => (if t111 = true then ((ieee_Parts.f k a0).bind fun bt112 => (if bt112.2.2 = true then (if (wrap64 (bt112.2.1 + a1)) > 16 then (ieee_Scale.j0 k bt112.1 (wrap64 (bt112.2.1 + a1)) (mx bt112.1 (wrap64 (-bt112.1))) (decide ((mx bt112.1 (wrap64 (-bt112.1))) > 0))) else (ieee_Scale.j0 k bt112.1 (wrap64 (bt112.2.1 + a1)) (mx bt112.1 (wrap64 (-bt112.1))) false)) else (some (0, 1)))) else (some (0, 2)))
theorem ieee_Scale.mono_l : ∀ k, (∀ y0 y1, LeO (ieee_Scale.j2 k y0 y1) (ieee_Scale.j2 (k + 1) y0 y1)) ∧ (∀ y0 y1 y2 y3, LeO (ieee_Scale.j0 k y0 y1 y2 y3) (ieee_Scale.j0 (k + 1) y0 y1 y2 y3)) ∧ (∀ y0 y1 y2 y3, LeO (ieee_Scale.j1 k y0 y1 y2 y3) (ieee_Scale.j1 (k + 1) y0 y1 y2 y3))
  | 0 => ⟨fun _ _ r h => by simp [ieee_Scale.j2] at h, fun _ _ _ _ r h => by simp [ieee_Scale.j0] at h, fun _ _ _ _ r h => by simp [ieee_Scale.j1] at h⟩
  | k + 1 => by
    obtain ⟨ih0, ih1, ih2⟩ := ieee_Scale.mono_l k
    refine ⟨?_, ?_, ?_⟩
    · intro y0 y1
      unfold ieee_Scale.j2
      repeat' first
      | (with_reducible exact ih0 _ _)
      | (with_reducible exact ih1 _ _ _ _)
      | (with_reducible exact ih2 _ _ _ _)
      | (with_reducible exact ieee_Parts.mono _ _)
      | (with_reducible exact LeO.refl _)
      | (with_reducible exact LeO.none _)
      | (with_reducible refine LeO.ite ?_ ?_)
      | (with_reducible refine LeO.bind ?_ (fun _ => ?_))
      | exact ih0 _ _
      | exact ih1 _ _ _ _
      | exact ih2 _ _ _ _
      | exact ieee_Parts.mono _ _
      | exact LeO.none _
      | refine LeO.ite ?_ ?_
      | refine LeO.bind ?_ (fun _ => ?_)
    · intro y0 y1 y2 y3
      unfold ieee_Scale.j0
      repeat' first
      | (with_reducible exact ih0 _ _)
      | (with_reducible exact ih1 _ _ _ _)
      | (with_reducible exact ih2 _ _ _ _)
      | (with_reducible exact ieee_Parts.mono _ _)
      | (with_reducible exact LeO.refl _)
      | (with_reducible exact LeO.none _)
      | (with_reducible refine LeO.ite ?_ ?_)
      | (with_reducible refine LeO.bind ?_ (fun _ => ?_))
      | exact ih0 _ _
      | exact ih1 _ _ _ _
      | exact ih2 _ _ _ _
      | exact ieee_Parts.mono _ _
      | exact LeO.none _
      | refine LeO.ite ?_ ?_
      | refine LeO.bind ?_ (fun _ => ?_)
    · intro y0 y1 y2 y3
      unfold ieee_Scale.j1
      repeat' first
      | (with_reducible exact ih0 _ _)
      | (with_reducible exact ih1 _ _ _ _)
      | (with_reducible exact ih2 _ _ _ _)
      | (with_reducible exact ieee_Parts.mono _ _)
      | (with_reducible exact LeO.refl _)
      | (with_reducible exact LeO.none _)
      | (with_reducible refine LeO.ite ?_ ?_)
      | (with_reducible refine LeO.bind ?_ (fun _ => ?_))
      | exact ih0 _ _
      | exact ih1 _ _ _ _
      | exact ih2 _ _ _ _
      | exact ieee_Parts.mono _ _
      | exact LeO.none _
      | refine LeO.ite ?_ ?_
      | refine LeO.bind ?_ (fun _ => ?_)
theorem ieee_Scale.mono : ∀ a0 a1 k, LeO (ieee_Scale.f k a0 a1) (ieee_Scale.f (k + 1) a0 a1) := by
  intro a0 a1 k
  obtain ⟨ih0, ih1, ih2⟩ := ieee_Scale.mono_l k
  unfold ieee_Scale.f
  repeat' first
      | (with_reducible exact ih0 _ _)
      | (with_reducible exact ih1 _ _ _ _)
      | (with_reducible exact ih2 _ _ _ _)
      | (with_reducible exact ieee_Parts.mono _ _)
      | (with_reducible exact LeO.refl _)
      | (with_reducible exact LeO.none _)
      | (with_reducible refine LeO.ite ?_ ?_)
      | (with_reducible refine LeO.bind ?_ (fun _ => ?_))
      | exact ih0 _ _
      | exact ih1 _ _ _ _
      | exact ih2 _ _ _ _
      | exact ieee_Parts.mono _ _
      | exact LeO.none _
      | refine LeO.ite ?_ ?_
      | refine LeO.bind ?_ (fun _ => ?_)
set_option maxHeartbeats 8000000 in
set_option maxRecDepth 100000 in
theorem ieee_Scale.calls (k : Nat) (a0 : Int) (a1 : Int) (r1 : Int) (r2 : Int) (w : World) (h : ieee_Scale.f k a0 a1 = some (r1, r2)) :
    Calls Try.prog 12 #[.int .u64 a0, .int .i64 a1] w fun e w' => e = .returned (.tuple #[.int .i64 r1, .int .i64 r2]) ∧ Below w.heap.size w w' := by
  have HB := Aside0.mk (Below.refl w.heap.size w)
  have H : ((ieee_shiftable.f a1).bind fun t111 => (if t111 = true then ((ieee_Parts.f k a0).bind fun bt112 => (if bt112.2.2 = true then (if (wrap64 (bt112.2.1 + a1)) > 16 then (ieee_Scale.j0 k bt112.1 (wrap64 (bt112.2.1 + a1)) (mx bt112.1 (wrap64 (-bt112.1))) (decide ((mx bt112.1 (wrap64 (-bt112.1))) > 0))) else (ieee_Scale.j0 k bt112.1 (wrap64 (bt112.2.1 + a1)) (mx bt112.1 (wrap64 (-bt112.1))) false)) else (some (0, 1)))) else (some (0, 2)))) = some (r1, r2) := h
  clear h
  replace H := Option.bind_eq_some_iff.mp H
  obtain ⟨t111, A30, H⟩ := H
  replace H : (if t111 = true then ((ieee_Parts.f k a0).bind fun bt112 => (if bt112.2.2 = true then (if (wrap64 (bt112.2.1 + a1)) > 16 then (ieee_Scale.j0 k bt112.1 (wrap64 (bt112.2.1 + a1)) (mx bt112.1 (wrap64 (-bt112.1))) (decide ((mx bt112.1 (wrap64 (-bt112.1))) > 0))) else (ieee_Scale.j0 k bt112.1 (wrap64 (bt112.2.1 + a1)) (mx bt112.1 (wrap64 (-bt112.1))) false)) else (some (0, 1)))) else (some (0, 2))) = some (r1, r2) := H
  have A3 := Aside0.mk A30
  clear A30
  by_cases c4 : t111 = true
  · subst c4
    have H1 : ((ieee_Parts.f k a0).bind fun bt112 => (if bt112.2.2 = true then (if (wrap64 (bt112.2.1 + a1)) > 16 then (ieee_Scale.j0 k bt112.1 (wrap64 (bt112.2.1 + a1)) (mx bt112.1 (wrap64 (-bt112.1))) (decide ((mx bt112.1 (wrap64 (-bt112.1))) > 0))) else (ieee_Scale.j0 k bt112.1 (wrap64 (bt112.2.1 + a1)) (mx bt112.1 (wrap64 (-bt112.1))) false)) else (some (0, 1)))) = some (r1, r2) := by rw [if_pos rfl] at H; exact H
    clear H
    have H := H1
    clear H1
    replace H := Option.bind_eq_some_iff.mp H
    obtain ⟨⟨t112, t113, t114⟩, A50, H⟩ := H
    replace H : (if t114 = true then (if (wrap64 (t113 + a1)) > 16 then (ieee_Scale.j0 k t112 (wrap64 (t113 + a1)) (mx t112 (wrap64 (-t112))) (decide ((mx t112 (wrap64 (-t112))) > 0))) else (ieee_Scale.j0 k t112 (wrap64 (t113 + a1)) (mx t112 (wrap64 (-t112))) false)) else (some (0, 1))) = some (r1, r2) := H
    have A5 := Aside0.mk A50
    clear A50
    by_cases c6 : t114 = true
    · subst c6
      have H1 : (if (wrap64 (t113 + a1)) > 16 then (ieee_Scale.j0 k t112 (wrap64 (t113 + a1)) (mx t112 (wrap64 (-t112))) (decide ((mx t112 (wrap64 (-t112))) > 0))) else (ieee_Scale.j0 k t112 (wrap64 (t113 + a1)) (mx t112 (wrap64 (-t112))) false)) = some (r1, r2) := by rw [if_pos rfl] at H; exact H
      clear H
      have H := H1
      clear H1
      obtain ⟨ji7, hji7⟩ : ∃ j_ : Int, (mx t112 (wrap64 (-t112))) = j_ := ⟨_, rfl⟩
      replace H : (if (wrap64 (t113 + a1)) > 16 then (ieee_Scale.j0 k t112 (wrap64 (t113 + a1)) ji7 (decide ((ji7) > 0))) else (ieee_Scale.j0 k t112 (wrap64 (t113 + a1)) ji7 false)) = some (r1, r2) := by first | (rw [hji7] at H; exact H) | (simp only [hji7] at H ⊢; exact H)
      (try rw [hji7] at A3)
      (try rw [hji7] at A5)
      have hji7_ : (if t112 < (wrap64 (-t112)) then (wrap64 (-t112)) else t112) = ji7 := hji7
      have HC8 := Aside0.mk H
      clear H
      go_enter Try.func12, Try.ntmps12
      go_upto_block 0 with (first | (go_at_call 26; (with_reducible refine (ieee_shiftable.calls a1 true _ A3.out).mono ?_); rintro e w' ⟨rfl, ⟨nd, rfl⟩⟩; (try first | exact ⟨rfl, _, World.drewN_drewN _ _ _⟩ | exact ⟨rfl, _, Eq.trans (World.drewN_drewN _ _ _) (congrArg (World.drewN _) (Nat.add_assoc _ _ _))⟩)) | (go_at_call 19; (with_reducible refine (ieee_Parts.calls k a0 t112 t113 true _ A5.out).mono ?_); rintro e w' ⟨rfl, ⟨nd, rfl⟩⟩; (try first | exact ⟨rfl, _, World.drewN_drewN _ _ _⟩ | exact ⟨rfl, _, Eq.trans (World.drewN_drewN _ _ _) (congrArg (World.drewN _) (Nat.add_assoc _ _ _))⟩)))
      repeat (go_quiet (first | (go_at_call 26; (with_reducible refine (ieee_shiftable.calls a1 true _ A3.out).mono ?_); rintro e w' ⟨rfl, ⟨nd, rfl⟩⟩; (try first | exact ⟨rfl, _, World.drewN_drewN _ _ _⟩ | exact ⟨rfl, _, Eq.trans (World.drewN_drewN _ _ _) (congrArg (World.drewN _) (Nat.add_assoc _ _ _))⟩)) | (go_at_call 19; (with_reducible refine (ieee_Parts.calls k a0 t112 t113 true _ A5.out).mono ?_); rintro e w' ⟨rfl, ⟨nd, rfl⟩⟩; (try first | exact ⟨rfl, _, World.drewN_drewN _ _ _⟩ | exact ⟨rfl, _, Eq.trans (World.drewN_drewN _ _ _) (congrArg (World.drewN _) (Nat.add_assoc _ _ _))⟩))); go_upto_block 0 with (first | (go_at_call 26; (with_reducible refine (ieee_shiftable.calls a1 true _ A3.out).mono ?_); rintro e w' ⟨rfl, ⟨nd, rfl⟩⟩; (try first | exact ⟨rfl, _, World.drewN_drewN _ _ _⟩ | exact ⟨rfl, _, Eq.trans (World.drewN_drewN _ _ _) (congrArg (World.drewN _) (Nat.add_assoc _ _ _))⟩)) | (go_at_call 19; (with_reducible refine (ieee_Parts.calls k a0 t112 t113 true _ A5.out).mono ?_); rintro e w' ⟨rfl, ⟨nd, rfl⟩⟩; (try first | exact ⟨rfl, _, World.drewN_drewN _ _ _⟩ | exact ⟨rfl, _, Eq.trans (World.drewN_drewN _ _ _) (congrArg (World.drewN _) (Nat.add_assoc _ _ _))⟩))))
      (try simp only [Act.put, List.setIfInBounds_toArray, List.set_cons_zero, List.set_cons_succ])
      go_cut [9] (fun v9 wc => ∃ (kq : Nat) (x9_7 : Int), v9 = .int .i64 x9_7 ∧ Aside0 (ieee_Scale.j2 kq t112 x9_7 = some (r1, r2)) ∧ Aside0 (kq ≤ k) ∧ Aside0 (Below w.heap.size w wc))
      case first =>
        have H := HC8.out
        clear HC8
        have HC9 := Aside0.mk H
        clear H
        go_upto_region 11 with (fail)
        repeat (go_quiet (fail); go_upto_region 11 with (fail))
        go_cut [61] (fun v61 wc => ∃ (kq : Nat) (x61_8 : Bool), v61 = .bool x61_8 ∧ Aside0 (ieee_Scale.j0 kq t112 (wrap64 (t113 + a1)) ji7 x61_8 = some (r1, r2)) ∧ Aside0 (kq ≤ k) ∧ Aside0 (Below w.heap.size w wc))
        case first =>
          have H := HC9.out
          clear HC9
          by_cases c10 : (wrap64 (t113 + a1)) > 16
          · rw [if_pos c10] at H
            have c10b0 : decide (16 < (wrap64 (t113 + a1))) = true := decide_eq_true c10
            clear c10
            (first | rw [c10b0] | (simp only [i64_w, i32_w]; rw [c10b0]) | skip)
            have H' := Aside0.mk H
            clear H
            go_wp2
            repeat (go_quiet (fail); try go_wp2)
            go_meet
            case rel => exact ⟨_, (decide ((ji7) > 0)), (by first | rfl | (simp; done) | (simp only [← hji7] <;> (first | rfl | simp)) | (simp [*]; done)), (by first | exact H' | ((try (rw [hji7])); exact H')), ⟨by first | omega | exact Nat.le_refl _⟩, ⟨by repeat (first | (with_reducible first | exact HB.out | apply below_alloc | apply pw_below_drewN | apply below_drew1) | exact HB.out)⟩⟩
          · rw [if_neg c10] at H
            have c10b0 : decide (16 < (wrap64 (t113 + a1))) = false := decide_eq_false c10
            clear c10
            (first | rw [c10b0] | (simp only [i64_w, i32_w]; rw [c10b0]) | skip)
            have H' := Aside0.mk H
            clear H
            go_wp2
            repeat (go_quiet (fail); try go_wp2)
            go_meet
            case rel => exact ⟨_, (false), (by first | rfl | (simp; done) | (simp [*]; done)), (by first | exact H' | ((try (rw [hji7])); exact H')), ⟨by first | omega | exact Nat.le_refl _⟩, ⟨by repeat (first | (with_reducible first | exact HB.out | apply below_alloc | apply pw_below_drewN | apply below_drew1) | exact HB.out)⟩⟩
        case rest =>
          clear HC9
          try clear c1
          try clear p2
          try clear c4
          try clear c6
          try clear p6
          try clear c10
          try clear c10b0
          obtain ⟨kq, x61_8, rfl, HA, HJ8, HB⟩ := hcut
          cases kq with
          | zero => exact absurd HA.out (by simp [ieee_Scale.j0])
          | succ kj8 =>
            have H := HA.out
            clear HA
            simp only [ieee_Scale.j0] at H
            by_cases c11 : x61_8 = true
            · subst c11
              have H1 : (some (0, 3)) = some (r1, r2) := by rw [if_pos rfl] at H; exact H
              clear H
              have H := H1
              clear H1
              simp only [Option.some.injEq, Prod.mk.injEq] at H
              obtain ⟨rfl, rfl⟩ := H
              go_wp2
              repeat (go_quiet (fail); try go_wp2)
              go_ret2
              exact ⟨by first | rfl | (simp [errW_none, errW_some] <;> rfl) | (simp only [← hji7]; first | rfl | (simp [errW_none, errW_some] <;> rfl)) | (simp [*, errW_none, errW_some] <;> rfl), by repeat (first | (with_reducible first | exact HB.out | apply below_alloc | apply pw_below_drewN | apply below_drew1) | exact HB.out)⟩
            · replace c11 := Bool.eq_false_iff.mpr c11
              subst c11
              have H1 : (if (wrap64 (t113 + a1)) ≥ 0 then (if 0 ≤ (wrap64 (t113 + a1)) then (ieee_Scale.j1 kj8 t112 (wrap64 (t113 + a1)) ji7 (decide (ji7 > (shr .i64 32767 (wrap64 (t113 + a1)))))) else (none)) else (ieee_Scale.j1 kj8 t112 (wrap64 (t113 + a1)) ji7 false)) = some (r1, r2) := by rw [if_neg (show ¬ (false = true) by decide)] at H; exact H
              clear H
              have H := H1
              clear H1
              have HC12 := Aside0.mk H
              clear H
              go_upto_region 13 with (fail)
              repeat (go_quiet (fail); go_upto_region 13 with (fail))
              go_cut [68] (fun v68 wc => ∃ (kq : Nat) (x68_11 : Bool), v68 = .bool x68_11 ∧ Aside0 (ieee_Scale.j1 kq t112 (wrap64 (t113 + a1)) ji7 x68_11 = some (r1, r2)) ∧ Aside0 (kq ≤ kj8) ∧ Aside0 (Below w.heap.size w wc))
              case first =>
                have H := HC12.out
                clear HC12
                by_cases c13 : (wrap64 (t113 + a1)) ≥ 0
                · rw [if_pos c13] at H
                  have c13b0 : decide (0 ≤ (wrap64 (t113 + a1))) = true := decide_eq_true c13
                  clear c13
                  (first | rw [c13b0] | (simp only [i64_w, i32_w]; rw [c13b0]) | skip)
                  obtain ⟨ji14, hji14⟩ : ∃ j_ : Int, (wrap64 (t113 + a1)) = j_ := ⟨_, rfl⟩
                  replace H : (if 0 ≤ (ji14) then (ieee_Scale.j1 kj8 t112 (ji14) ji7 (decide (ji7 > (shr .i64 32767 (ji14))))) else (none)) = some (r1, r2) := by first | (rw [hji14] at H; exact H) | (simp only [hji14] at H ⊢; exact H)
                  (try rw [hji14] at c13b0)
                  have hji14w : (IntKind.i64.wrap (t113 + a1)) = ji14 := (i64_w _).trans hji14
                  by_cases c15 : 0 ≤ (ji14)
                  · rw [if_pos c15] at H
                    have c15b0 := eq_true c15
                    have c15b1 : decide (0 ≤ (ji14)) = true := decide_eq_true c15
                    clear c15
                    obtain ⟨ji16, hji16⟩ : ∃ j_ : Int, (shr .i64 32767 (ji14)) = j_ := ⟨_, rfl⟩
                    replace H : (ieee_Scale.j1 kj8 t112 (ji14) ji7 (decide (ji7 > (ji16)))) = some (r1, r2) := by first | (rw [hji16] at H; exact H) | (simp only [hji16] at H ⊢; exact H)
                    have hji16_ : (32767 / 2 ^ min (ji14).toNat 64) = ji16 := hji16
                    have hji16z : (ji14) ≤ 64 → (32767 / 2 ^ (ji14).toNat) = ji16 := shr_small hji16
                    have H' := Aside0.mk H
                    clear H
                    go_wp2
                    repeat (go_quiet (fail); try go_wp2)
                    go_meet
                    case rel => exact ⟨_, (decide (ji7 > (ji16))), (by first | rfl | (simp; done) | (simp only [← hji7, ← hji16] <;> (first | rfl | simp)) | (simp [*]; done)), (by first | exact H' | ((try (rw [hji7])); (try (rw [hji14])); (try (rw [hji16])); exact H')), ⟨by have := HJ8.out; first | omega | exact Nat.le_refl _⟩, ⟨by repeat (first | (with_reducible first | exact HB.out | apply below_alloc | apply pw_below_drewN | apply below_drew1) | exact HB.out)⟩⟩
                  · rw [if_neg c15] at H
                    exact absurd H (by simp)
                · rw [if_neg c13] at H
                  have c13b0 : decide (0 ≤ (wrap64 (t113 + a1))) = false := decide_eq_false c13
                  clear c13
                  (first | rw [c13b0] | (simp only [i64_w, i32_w]; rw [c13b0]) | skip)
                  have H' := Aside0.mk H
                  clear H
                  go_wp2
                  repeat (go_quiet (fail); try go_wp2)
                  go_meet
                  case rel => exact ⟨_, (false), (by first | rfl | (simp; done) | (simp [*]; done)), (by first | exact H' | ((try (rw [hji7])); (try (rw [hji14])); (try (rw [hji16])); exact H')), ⟨by have := HJ8.out; first | omega | exact Nat.le_refl _⟩, ⟨by repeat (first | (with_reducible first | exact HB.out | apply below_alloc | apply pw_below_drewN | apply below_drew1) | exact HB.out)⟩⟩
              case rest =>
                clear HC12
                try clear c1
                try clear p2
                try clear c4
                try clear c6
                try clear p6
                try clear c10
                try clear c10b0
                try clear c11
                try clear c12
                try clear c13
                try clear c13b0
                try clear c15
                try clear c15b0
                try clear c15b1
                try clear p2
                try clear p6
                obtain ⟨kq, x68_11, rfl, HA, HJ11, HB⟩ := hcut
                cases kq with
                | zero => exact absurd HA.out (by simp [ieee_Scale.j1])
                | succ kj11 =>
                  have H := HA.out
                  clear HA
                  simp only [ieee_Scale.j1] at H
                  by_cases c17 : x68_11 = true
                  · subst c17
                    have H1 : (some (0, 3)) = some (r1, r2) := by rw [if_pos rfl] at H; exact H
                    clear H
                    have H := H1
                    clear H1
                    simp only [Option.some.injEq, Prod.mk.injEq] at H
                    obtain ⟨rfl, rfl⟩ := H
                    go_wp2
                    repeat (go_quiet (fail); try go_wp2)
                    go_ret2
                    exact ⟨by first | rfl | (simp [errW_none, errW_some] <;> rfl) | (simp only [← hji7]; first | rfl | (simp [errW_none, errW_some] <;> rfl)) | (simp [*, errW_none, errW_some] <;> rfl), by repeat (first | (with_reducible first | exact HB.out | apply below_alloc | apply pw_below_drewN | apply below_drew1) | exact HB.out)⟩
                  · replace c17 := Bool.eq_false_iff.mpr c17
                    subst c17
                    have H1 : (if (wrap64 (t113 + a1)) ≥ 0 then (if 0 ≤ (wrap64 (t113 + a1)) then (ieee_Scale.j2 kj11 t112 (shl .i64 ji7 (wrap64 (t113 + a1)))) else (none)) else (if (wrap64 (t113 + a1)) < (-60) then (ieee_Scale.j2 kj11 t112 0) else (if 0 ≤ (wrap64 (-(wrap64 (t113 + a1)))) then (if 0 ≤ (wrap64 ((wrap64 (-(wrap64 (t113 + a1)))) - 1)) then (if (Go.bits .and .i64 ji7 (wrap64 ((shl .i64 1 (wrap64 (-(wrap64 (t113 + a1))))) - 1))) > (shl .i64 1 (wrap64 ((wrap64 (-(wrap64 (t113 + a1)))) - 1))) then (ieee_Scale.j2 kj11 t112 (wrap64 ((shr .i64 ji7 (wrap64 (-(wrap64 (t113 + a1))))) + 1))) else (if (Go.bits .and .i64 ji7 (wrap64 ((shl .i64 1 (wrap64 (-(wrap64 (t113 + a1))))) - 1))) = (shl .i64 1 (wrap64 ((wrap64 (-(wrap64 (t113 + a1)))) - 1))) then (if (Int.tmod (shr .i64 ji7 (wrap64 (-(wrap64 (t113 + a1))))) 2) = 1 then (ieee_Scale.j2 kj11 t112 (wrap64 ((shr .i64 ji7 (wrap64 (-(wrap64 (t113 + a1))))) + 1))) else (ieee_Scale.j2 kj11 t112 (shr .i64 ji7 (wrap64 (-(wrap64 (t113 + a1))))))) else (ieee_Scale.j2 kj11 t112 (shr .i64 ji7 (wrap64 (-(wrap64 (t113 + a1)))))))) else (none)) else (none)))) = some (r1, r2) := by rw [if_neg (show ¬ (false = true) by decide)] at H; exact H
                    clear H
                    have H := H1
                    clear H1
                    by_cases c18 : (wrap64 (t113 + a1)) ≥ 0
                    · rw [if_pos c18] at H
                      have c18b0 : decide (0 ≤ (wrap64 (t113 + a1))) = true := decide_eq_true c18
                      clear c18
                      obtain ⟨ji19, hji19⟩ : ∃ j_ : Int, (wrap64 (t113 + a1)) = j_ := ⟨_, rfl⟩
                      replace H : (if 0 ≤ (ji19) then (ieee_Scale.j2 kj11 t112 (shl .i64 ji7 (ji19))) else (none)) = some (r1, r2) := by first | (rw [hji19] at H; exact H) | (simp only [hji19] at H ⊢; exact H)
                      (try rw [hji19] at c18b0)
                      have hji19w : (IntKind.i64.wrap (t113 + a1)) = ji19 := (i64_w _).trans hji19
                      by_cases c20 : 0 ≤ (ji19)
                      · rw [if_pos c20] at H
                        have c20b0 := eq_true c20
                        have c20b1 : decide (0 ≤ (ji19)) = true := decide_eq_true c20
                        clear c20
                        obtain ⟨ji21, hji21⟩ : ∃ j_ : Int, (shl .i64 ji7 (ji19)) = j_ := ⟨_, rfl⟩
                        replace H : (ieee_Scale.j2 kj11 t112 ji21) = some (r1, r2) := by first | (rw [hji21] at H; exact H) | (simp only [hji21] at H ⊢; exact H)
                        have hji21_ : (IntKind.i64.wrap (ji7 * 2 ^ min (ji19).toNat 64)) = ji21 := hji21
                        have hji21z : (ji19) ≤ 64 → (IntKind.i64.wrap (ji7 * 2 ^ (ji19).toNat)) = ji21 := shl_small hji21
                        have hji21y : (wrap64 (ji7 * 2 ^ min (ji19).toNat 64)) = ji21 := (i64_w _).symm.trans hji21_
                        have hji21x : (ji19) ≤ 64 → (wrap64 (ji7 * 2 ^ (ji19).toNat)) = ji21 := fun h_ => (i64_w _).symm.trans (hji21z h_)
                        have H' := Aside0.mk H
                        clear H
                        go_wp2
                        repeat (go_quiet (fail); try go_wp2)
                        go_meet
                        case rel => exact ⟨_, (ji21), (by first | rfl | (simp; done) | (simp only [← hji21] <;> (first | rfl | simp)) | (simp [*]; done)), (by first | exact H' | ((try (rw [hji7])); (try (rw [hji14])); (try (rw [hji16])); (try (rw [hji19])); (try (rw [hji21])); exact H')), ⟨by have := HJ8.out; have := HJ11.out; first | omega | exact Nat.le_refl _⟩, ⟨by repeat (first | (with_reducible first | exact HB.out | apply below_alloc | apply pw_below_drewN | apply below_drew1) | exact HB.out)⟩⟩
                      · rw [if_neg c20] at H
                        exact absurd H (by simp)
                    · rw [if_neg c18] at H
                      have c18b0 : decide (0 ≤ (wrap64 (t113 + a1))) = false := decide_eq_false c18
                      clear c18
                      by_cases c22 : (wrap64 (t113 + a1)) < (-60)
                      · rw [if_pos c22] at H
                        have c22b0 : decide ((wrap64 (t113 + a1)) < (-60)) = true := decide_eq_true c22
                        clear c22
                        have H' := Aside0.mk H
                        clear H
                        go_wp2
                        repeat (go_quiet (fail); try go_wp2)
                        go_meet
                        case rel => exact ⟨_, (0), (by first | rfl | (simp; done) | (simp [*]; done)), (by first | exact H' | ((try (rw [hji7])); (try (rw [hji14])); (try (rw [hji16])); (try (rw [hji19])); (try (rw [hji21])); exact H')), ⟨by have := HJ8.out; have := HJ11.out; first | omega | exact Nat.le_refl _⟩, ⟨by repeat (first | (with_reducible first | exact HB.out | apply below_alloc | apply pw_below_drewN | apply below_drew1) | exact HB.out)⟩⟩
                      · rw [if_neg c22] at H
                        have c22b0 : decide ((wrap64 (t113 + a1)) < (-60)) = false := decide_eq_false c22
                        clear c22
                        obtain ⟨ji23, hji23⟩ : ∃ j_ : Int, (wrap64 (-(wrap64 (t113 + a1)))) = j_ := ⟨_, rfl⟩
                        replace H : (if 0 ≤ (ji23) then (if 0 ≤ (wrap64 ((ji23) - 1)) then (if (Go.bits .and .i64 ji7 (wrap64 ((shl .i64 1 (ji23)) - 1))) > (shl .i64 1 (wrap64 ((ji23) - 1))) then (ieee_Scale.j2 kj11 t112 (wrap64 ((shr .i64 ji7 (ji23)) + 1))) else (if (Go.bits .and .i64 ji7 (wrap64 ((shl .i64 1 (ji23)) - 1))) = (shl .i64 1 (wrap64 ((ji23) - 1))) then (if (Int.tmod (shr .i64 ji7 (ji23)) 2) = 1 then (ieee_Scale.j2 kj11 t112 (wrap64 ((shr .i64 ji7 (ji23)) + 1))) else (ieee_Scale.j2 kj11 t112 (shr .i64 ji7 (ji23)))) else (ieee_Scale.j2 kj11 t112 (shr .i64 ji7 (ji23))))) else (none)) else (none)) = some (r1, r2) := by first | (rw [hji23] at H; exact H) | (simp only [hji23] at H ⊢; exact H)
                        have hji23w : (IntKind.i64.wrap (-(wrap64 (t113 + a1)))) = ji23 := (i64_w _).trans hji23
                        by_cases c24 : 0 ≤ (ji23)
                        · rw [if_pos c24] at H
                          have c24b0 := eq_true c24
                          have c24b1 : decide (0 ≤ (ji23)) = true := decide_eq_true c24
                          clear c24
                          obtain ⟨ji25, hji25⟩ : ∃ j_ : Int, (shr .i64 ji7 (ji23)) = j_ := ⟨_, rfl⟩
                          replace H : (if 0 ≤ (wrap64 ((ji23) - 1)) then (if (Go.bits .and .i64 ji7 (wrap64 ((shl .i64 1 (ji23)) - 1))) > (shl .i64 1 (wrap64 ((ji23) - 1))) then (ieee_Scale.j2 kj11 t112 (wrap64 ((ji25) + 1))) else (if (Go.bits .and .i64 ji7 (wrap64 ((shl .i64 1 (ji23)) - 1))) = (shl .i64 1 (wrap64 ((ji23) - 1))) then (if (Int.tmod (ji25) 2) = 1 then (ieee_Scale.j2 kj11 t112 (wrap64 ((ji25) + 1))) else (ieee_Scale.j2 kj11 t112 ji25)) else (ieee_Scale.j2 kj11 t112 ji25))) else (none)) = some (r1, r2) := by first | (rw [hji25] at H; exact H) | (simp only [hji25] at H ⊢; exact H)
                          have hji25_ : (ji7 / 2 ^ min (ji23).toNat 64) = ji25 := hji25
                          have hji25z : (ji23) ≤ 64 → (ji7 / 2 ^ (ji23).toNat) = ji25 := shr_small hji25
                          have c26b0 := eq_true (of_decide_eq_true (by first | (with_reducible assumption) | assumption) : 0 ≤ (ji23))
                          obtain ⟨ji27, hji27⟩ : ∃ j_ : Int, (shl .i64 1 (ji23)) = j_ := ⟨_, rfl⟩
                          replace H : (if 0 ≤ (wrap64 ((ji23) - 1)) then (if (Go.bits .and .i64 ji7 (wrap64 ((ji27) - 1))) > (shl .i64 1 (wrap64 ((ji23) - 1))) then (ieee_Scale.j2 kj11 t112 (wrap64 ((ji25) + 1))) else (if (Go.bits .and .i64 ji7 (wrap64 ((ji27) - 1))) = (shl .i64 1 (wrap64 ((ji23) - 1))) then (if (Int.tmod (ji25) 2) = 1 then (ieee_Scale.j2 kj11 t112 (wrap64 ((ji25) + 1))) else (ieee_Scale.j2 kj11 t112 ji25)) else (ieee_Scale.j2 kj11 t112 ji25))) else (none)) = some (r1, r2) := by first | (rw [hji27] at H; exact H) | (simp only [hji27] at H ⊢; exact H)
                          have hji27_ : (IntKind.i64.wrap (1 * 2 ^ min (ji23).toNat 64)) = ji27 := hji27
                          have hji27z : (ji23) ≤ 64 → (IntKind.i64.wrap (1 * 2 ^ (ji23).toNat)) = ji27 := shl_small hji27
                          have hji27u : (IntKind.i64.wrap (2 ^ min (ji23).toNat 64)) = ji27 := by have h_ := hji27_; rw [Int.one_mul] at h_; exact h_
                          have hji27v : (ji23) ≤ 64 → (IntKind.i64.wrap (2 ^ (ji23).toNat)) = ji27 := fun hle_ => by have h_ := hji27z hle_; rw [Int.one_mul] at h_; exact h_
                          have hji27y : (wrap64 (1 * 2 ^ min (ji23).toNat 64)) = ji27 := (i64_w _).symm.trans hji27_
                          have hji27x : (ji23) ≤ 64 → (wrap64 (1 * 2 ^ (ji23).toNat)) = ji27 := fun h_ => (i64_w _).symm.trans (hji27z h_)
                          obtain ⟨ji28, hji28⟩ : ∃ j_ : Int, (wrap64 ((ji23) - 1)) = j_ := ⟨_, rfl⟩
                          replace H : (if 0 ≤ (ji28) then (if (Go.bits .and .i64 ji7 (wrap64 ((ji27) - 1))) > (shl .i64 1 (ji28)) then (ieee_Scale.j2 kj11 t112 (wrap64 ((ji25) + 1))) else (if (Go.bits .and .i64 ji7 (wrap64 ((ji27) - 1))) = (shl .i64 1 (ji28)) then (if (Int.tmod (ji25) 2) = 1 then (ieee_Scale.j2 kj11 t112 (wrap64 ((ji25) + 1))) else (ieee_Scale.j2 kj11 t112 ji25)) else (ieee_Scale.j2 kj11 t112 ji25))) else (none)) = some (r1, r2) := by first | (rw [hji28] at H; exact H) | (simp only [hji28] at H ⊢; exact H)
                          have hji28w : (IntKind.i64.wrap ((ji23) - 1)) = ji28 := (i64_w _).trans hji28
                          by_cases c29 : 0 ≤ (ji28)
                          · rw [if_pos c29] at H
                            have c29b0 := eq_true c29
                            have c29b1 : decide (0 ≤ (ji28)) = true := decide_eq_true c29
                            clear c29
                            obtain ⟨ji30, hji30⟩ : ∃ j_ : Int, (shl .i64 1 (ji28)) = j_ := ⟨_, rfl⟩
                            replace H : (if (Go.bits .and .i64 ji7 (wrap64 ((ji27) - 1))) > (ji30) then (ieee_Scale.j2 kj11 t112 (wrap64 ((ji25) + 1))) else (if (Go.bits .and .i64 ji7 (wrap64 ((ji27) - 1))) = (ji30) then (if (Int.tmod (ji25) 2) = 1 then (ieee_Scale.j2 kj11 t112 (wrap64 ((ji25) + 1))) else (ieee_Scale.j2 kj11 t112 ji25)) else (ieee_Scale.j2 kj11 t112 ji25))) = some (r1, r2) := by first | (rw [hji30] at H; exact H) | (simp only [hji30] at H ⊢; exact H)
                            have hji30_ : (IntKind.i64.wrap (1 * 2 ^ min (ji28).toNat 64)) = ji30 := hji30
                            have hji30z : (ji28) ≤ 64 → (IntKind.i64.wrap (1 * 2 ^ (ji28).toNat)) = ji30 := shl_small hji30
                            have hji30u : (IntKind.i64.wrap (2 ^ min (ji28).toNat 64)) = ji30 := by have h_ := hji30_; rw [Int.one_mul] at h_; exact h_
                            have hji30v : (ji28) ≤ 64 → (IntKind.i64.wrap (2 ^ (ji28).toNat)) = ji30 := fun hle_ => by have h_ := hji30z hle_; rw [Int.one_mul] at h_; exact h_
                            have hji30y : (wrap64 (1 * 2 ^ min (ji28).toNat 64)) = ji30 := (i64_w _).symm.trans hji30_
                            have hji30x : (ji28) ≤ 64 → (wrap64 (1 * 2 ^ (ji28).toNat)) = ji30 := fun h_ => (i64_w _).symm.trans (hji30z h_)
                            by_cases c31 : (Go.bits .and .i64 ji7 (wrap64 ((ji27) - 1))) > (ji30)
                            · rw [if_pos c31] at H
                              have c31b0 : decide ((ji30) < (Go.bits .and .i64 ji7 (wrap64 ((ji27) - 1)))) = true := decide_eq_true c31
                              clear c31
                              have H' := Aside0.mk H
                              clear H
                              go_wp2
                              repeat (go_quiet (fail); try go_wp2)
                              go_meet
                              case rel => exact ⟨_, (wrap64 ((ji25) + 1)), (by first | rfl | (simp; done) | (simp only [← hji25] <;> (first | rfl | simp)) | (simp [*]; done)), (by first | exact H' | ((try (rw [hji7])); (try (rw [hji14])); (try (rw [hji16])); (try (rw [hji19])); (try (rw [hji21])); (try (rw [hji23])); (try (rw [hji25])); (try (rw [hji27])); (try (rw [hji28])); (try (rw [hji30])); exact H')), ⟨by have := HJ8.out; have := HJ11.out; first | omega | exact Nat.le_refl _⟩, ⟨by repeat (first | (with_reducible first | exact HB.out | apply below_alloc | apply pw_below_drewN | apply below_drew1) | exact HB.out)⟩⟩
                            · rw [if_neg c31] at H
                              have c31b0 : decide ((ji30) < (Go.bits .and .i64 ji7 (wrap64 ((ji27) - 1)))) = false := decide_eq_false c31
                              clear c31
                              by_cases c32 : (Go.bits .and .i64 ji7 (wrap64 ((ji27) - 1))) = (ji30)
                              · rw [if_pos c32] at H
                                have c32b0 : ((Go.bits .and .i64 ji7 (wrap64 ((ji27) - 1))) == (ji30)) = true := beq_iff_eq.mpr c32
                                have c32b1 : ((Go.bits .and .i64 ji7 (wrap64 ((ji27) - 1))) != (ji30)) = false := bne_eq_false_iff_eq.mpr c32
                                clear c32
                                by_cases c33 : (Int.tmod (ji25) 2) = 1
                                · rw [if_pos c33] at H
                                  have c33b0 : ((Int.tmod (ji25) 2) == 1) = true := beq_iff_eq.mpr c33
                                  have c33b1 : ((Int.tmod (ji25) 2) != 1) = false := bne_eq_false_iff_eq.mpr c33
                                  clear c33
                                  have H' := Aside0.mk H
                                  clear H
                                  go_wp2
                                  repeat (go_quiet (fail); try go_wp2)
                                  go_meet
                                  case rel => exact ⟨_, (wrap64 ((ji25) + 1)), (by first | rfl | (simp; done) | (simp only [← hji25] <;> (first | rfl | simp)) | (simp [*]; done)), (by first | exact H' | ((try (rw [hji7])); (try (rw [hji14])); (try (rw [hji16])); (try (rw [hji19])); (try (rw [hji21])); (try (rw [hji23])); (try (rw [hji25])); (try (rw [hji27])); (try (rw [hji28])); (try (rw [hji30])); exact H')), ⟨by have := HJ8.out; have := HJ11.out; first | omega | exact Nat.le_refl _⟩, ⟨by repeat (first | (with_reducible first | exact HB.out | apply below_alloc | apply pw_below_drewN | apply below_drew1) | exact HB.out)⟩⟩
                                · rw [if_neg c33] at H
                                  have c33b0 : ((Int.tmod (ji25) 2) == 1) = false := beq_eq_false_iff_ne.mpr c33
                                  have c33b1 : ((Int.tmod (ji25) 2) != 1) = true := bne_iff_ne.mpr c33
                                  have H' := Aside0.mk H
                                  clear H
                                  go_wp2
                                  repeat (go_quiet (fail); try go_wp2)
                                  go_meet
                                  case rel => exact ⟨_, (ji25), (by first | rfl | (simp; done) | (simp only [← hji25] <;> (first | rfl | simp)) | (simp [*]; done)), (by first | exact H' | ((try (rw [hji7])); (try (rw [hji14])); (try (rw [hji16])); (try (rw [hji19])); (try (rw [hji21])); (try (rw [hji23])); (try (rw [hji25])); (try (rw [hji27])); (try (rw [hji28])); (try (rw [hji30])); exact H')), ⟨by have := HJ8.out; have := HJ11.out; first | omega | exact Nat.le_refl _⟩, ⟨by repeat (first | (with_reducible first | exact HB.out | apply below_alloc | apply pw_below_drewN | apply below_drew1) | exact HB.out)⟩⟩
                              · rw [if_neg c32] at H
                                have c32b0 : ((Go.bits .and .i64 ji7 (wrap64 ((ji27) - 1))) == (ji30)) = false := beq_eq_false_iff_ne.mpr c32
                                have c32b1 : ((Go.bits .and .i64 ji7 (wrap64 ((ji27) - 1))) != (ji30)) = true := bne_iff_ne.mpr c32
                                have H' := Aside0.mk H
                                clear H
                                go_wp2
                                repeat (go_quiet (fail); try go_wp2)
                                go_meet
                                case rel => exact ⟨_, (ji25), (by first | rfl | (simp; done) | (simp only [← hji25] <;> (first | rfl | simp)) | (simp [*]; done)), (by first | exact H' | ((try (rw [hji7])); (try (rw [hji14])); (try (rw [hji16])); (try (rw [hji19])); (try (rw [hji21])); (try (rw [hji23])); (try (rw [hji25])); (try (rw [hji27])); (try (rw [hji28])); (try (rw [hji30])); exact H')), ⟨by have := HJ8.out; have := HJ11.out; first | omega | exact Nat.le_refl _⟩, ⟨by repeat (first | (with_reducible first | exact HB.out | apply below_alloc | apply pw_below_drewN | apply below_drew1) | exact HB.out)⟩⟩
                          · rw [if_neg c29] at H
                            exact absurd H (by simp)
                        · rw [if_neg c24] at H
                          exact absurd H (by simp)
      case rest =>
        clear HC8
        try clear c1
        try clear c2
        try clear p2
        try clear c3
        try clear c4
        try clear c6
        try clear p6
        try clear c10
        try clear c10b0
        try clear c11
        try clear c12
        try clear c13
        try clear c13b0
        try clear c15
        try clear c15b0
        try clear c15b1
        try clear c17
        try clear c18
        try clear c18b0
        try clear c20
        try clear c20b0
        try clear c20b1
        try clear c22
        try clear c22b0
        try clear c24
        try clear c24b0
        try clear c24b1
        try clear c26
        try clear c26b0
        try clear c29
        try clear c29b0
        try clear c29b1
        try clear c31
        try clear c31b0
        try clear c32
        try clear c32b0
        try clear c32b1
        try clear c33
        try clear c33b0
        try clear c33b1
        try clear p2
        try clear p6
        obtain ⟨kq, x9_7, rfl, HA, HJ7, HB⟩ := hcut
        cases kq with
        | zero => exact absurd HA.out (by simp [ieee_Scale.j2])
        | succ kj7 =>
          have H := HA.out
          clear HA
          simp only [ieee_Scale.j2] at H
          by_cases c34 : x9_7 > 32767
          · rw [if_pos c34] at H
            have c34b0 : decide (32767 < x9_7) = true := decide_eq_true c34
            clear c34
            simp only [Option.some.injEq, Prod.mk.injEq] at H
            obtain ⟨rfl, rfl⟩ := H
            go_wp2
            repeat (go_quiet (fail); try go_wp2)
            go_ret2
            exact ⟨by first | rfl | (simp [errW_none, errW_some] <;> rfl) | (simp only [← hji7]; first | rfl | (simp [errW_none, errW_some] <;> rfl)) | (simp [*, errW_none, errW_some] <;> rfl), by repeat (first | (with_reducible first | exact HB.out | apply below_alloc | apply pw_below_drewN | apply below_drew1) | exact HB.out)⟩
          · rw [if_neg c34] at H
            have c34b0 : decide (32767 < x9_7) = false := decide_eq_false c34
            clear c34
            by_cases c35 : t112 < 0
            · rw [if_pos c35] at H
              have c35b0 : decide (t112 < 0) = true := decide_eq_true c35
              clear c35
              simp only [Option.some.injEq, Prod.mk.injEq] at H
              obtain ⟨rfl, rfl⟩ := H
              go_wp2
              repeat (go_quiet (fail); try go_wp2)
              go_ret2
              exact ⟨by first | rfl | (simp [errW_none, errW_some] <;> rfl) | (simp only [← hji7]; first | rfl | (simp [errW_none, errW_some] <;> rfl)) | (simp [*, errW_none, errW_some] <;> rfl), by repeat (first | (with_reducible first | exact HB.out | apply below_alloc | apply pw_below_drewN | apply below_drew1) | exact HB.out)⟩
            · rw [if_neg c35] at H
              have c35b0 : decide (t112 < 0) = false := decide_eq_false c35
              clear c35
              simp only [Option.some.injEq, Prod.mk.injEq] at H
              obtain ⟨rfl, rfl⟩ := H
              go_wp2
              repeat (go_quiet (fail); try go_wp2)
              go_ret2
              exact ⟨by first | rfl | (simp [errW_none, errW_some] <;> rfl) | (simp only [← hji7]; first | rfl | (simp [errW_none, errW_some] <;> rfl)) | (simp [*, errW_none, errW_some] <;> rfl), by repeat (first | (with_reducible first | exact HB.out | apply below_alloc | apply pw_below_drewN | apply below_drew1) | exact HB.out)⟩
    · replace c6 := Bool.eq_false_iff.mpr c6
      subst c6
      have H1 : (some (0, 1)) = some (r1, r2) := by rw [if_neg (show ¬ (false = true) by decide)] at H; exact H
      clear H
      have H := H1
      clear H1
      simp only [Option.some.injEq, Prod.mk.injEq] at H
      obtain ⟨rfl, rfl⟩ := H
      go_enter Try.func12, Try.ntmps12
      go_wp2_with (first | (go_at_call 26; (with_reducible refine (ieee_shiftable.calls a1 true _ A3.out).mono ?_); rintro e w' ⟨rfl, ⟨nd, rfl⟩⟩; (try first | exact ⟨rfl, _, World.drewN_drewN _ _ _⟩ | exact ⟨rfl, _, Eq.trans (World.drewN_drewN _ _ _) (congrArg (World.drewN _) (Nat.add_assoc _ _ _))⟩)) | (go_at_call 19; (with_reducible refine (ieee_Parts.calls k a0 t112 t113 false _ A5.out).mono ?_); rintro e w' ⟨rfl, ⟨nd, rfl⟩⟩; (try first | exact ⟨rfl, _, World.drewN_drewN _ _ _⟩ | exact ⟨rfl, _, Eq.trans (World.drewN_drewN _ _ _) (congrArg (World.drewN _) (Nat.add_assoc _ _ _))⟩)))
      repeat (go_quiet (first | (go_at_call 26; (with_reducible refine (ieee_shiftable.calls a1 true _ A3.out).mono ?_); rintro e w' ⟨rfl, ⟨nd, rfl⟩⟩; (try first | exact ⟨rfl, _, World.drewN_drewN _ _ _⟩ | exact ⟨rfl, _, Eq.trans (World.drewN_drewN _ _ _) (congrArg (World.drewN _) (Nat.add_assoc _ _ _))⟩)) | (go_at_call 19; (with_reducible refine (ieee_Parts.calls k a0 t112 t113 false _ A5.out).mono ?_); rintro e w' ⟨rfl, ⟨nd, rfl⟩⟩; (try first | exact ⟨rfl, _, World.drewN_drewN _ _ _⟩ | exact ⟨rfl, _, Eq.trans (World.drewN_drewN _ _ _) (congrArg (World.drewN _) (Nat.add_assoc _ _ _))⟩))); try go_wp2_with (first | (go_at_call 26; (with_reducible refine (ieee_shiftable.calls a1 true _ A3.out).mono ?_); rintro e w' ⟨rfl, ⟨nd, rfl⟩⟩; (try first | exact ⟨rfl, _, World.drewN_drewN _ _ _⟩ | exact ⟨rfl, _, Eq.trans (World.drewN_drewN _ _ _) (congrArg (World.drewN _) (Nat.add_assoc _ _ _))⟩)) | (go_at_call 19; (with_reducible refine (ieee_Parts.calls k a0 t112 t113 false _ A5.out).mono ?_); rintro e w' ⟨rfl, ⟨nd, rfl⟩⟩; (try first | exact ⟨rfl, _, World.drewN_drewN _ _ _⟩ | exact ⟨rfl, _, Eq.trans (World.drewN_drewN _ _ _) (congrArg (World.drewN _) (Nat.add_assoc _ _ _))⟩))))
      go_ret2
      exact ⟨by first | rfl | (simp [errW_none, errW_some] <;> rfl) | (simp [*, errW_none, errW_some] <;> rfl), by repeat (first | (with_reducible first | exact HB.out | apply below_alloc | apply pw_below_drewN | apply below_drew1) | exact HB.out)⟩
  · replace c4 := Bool.eq_false_iff.mpr c4
    subst c4
    have H1 : (some (0, 2)) = some (r1, r2) := by rw [if_neg (show ¬ (false = true) by decide)] at H; exact H
    clear H
    have H := H1
    clear H1
    simp only [Option.some.injEq, Prod.mk.injEq] at H
    obtain ⟨rfl, rfl⟩ := H
    go_enter Try.func12, Try.ntmps12
    go_wp2_with (first | (go_at_call 26; (with_reducible refine (ieee_shiftable.calls a1 false _ A3.out).mono ?_); rintro e w' ⟨rfl, ⟨nd, rfl⟩⟩; (try first | exact ⟨rfl, _, World.drewN_drewN _ _ _⟩ | exact ⟨rfl, _, Eq.trans (World.drewN_drewN _ _ _) (congrArg (World.drewN _) (Nat.add_assoc _ _ _))⟩)))
    repeat (go_quiet (first | (go_at_call 26; (with_reducible refine (ieee_shiftable.calls a1 false _ A3.out).mono ?_); rintro e w' ⟨rfl, ⟨nd, rfl⟩⟩; (try first | exact ⟨rfl, _, World.drewN_drewN _ _ _⟩ | exact ⟨rfl, _, Eq.trans (World.drewN_drewN _ _ _) (congrArg (World.drewN _) (Nat.add_assoc _ _ _))⟩))); try go_wp2_with (first | (go_at_call 26; (with_reducible refine (ieee_shiftable.calls a1 false _ A3.out).mono ?_); rintro e w' ⟨rfl, ⟨nd, rfl⟩⟩; (try first | exact ⟨rfl, _, World.drewN_drewN _ _ _⟩ | exact ⟨rfl, _, Eq.trans (World.drewN_drewN _ _ _) (congrArg (World.drewN _) (Nat.add_assoc _ _ _))⟩))))
    go_ret2
    exact ⟨by first | rfl | (simp [errW_none, errW_some] <;> rfl) | (simp [*, errW_none, errW_some] <;> rfl), by repeat (first | (with_reducible first | exact HB.out | apply below_alloc | apply pw_below_drewN | apply below_drew1) | exact HB.out)⟩

end Go.Proofs.Ytoamkepelnphaaa.PIeeeQuantizes
