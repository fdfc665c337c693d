-- Written by a program of the session (wip/tools/myprint.py) over the kit's printer; checked by Lean.
import Derived.Test.YtoamkepelnphaaaPIeeeReadsx0
import Derived.Test.YtoamkepelnphaaaPIeeeReadsx1
import Derived.Test.YtoamkepelnphaaaPIeeeReadsx3
namespace Go.Proofs.Ytoamkepelnphaaa.PIeeeReads
open Go.RowKit Go.Proofs.YtoamkepelnphaaaW.PrintWords Go.Proofs.YtoamkepelnphaaaW.PrintLast Go.Proofs.YtoamkepelnphaaaW.PrintMore
attribute [local go_sem] max2_int min2_int max_two min_two max_three min_three max_four min_four   -- for this text's walks alone
set_option linter.unusedVariables false
set_option linter.unusedSimpArgs false

/-! ### tilefarmref6_Parts: function 20 -/
mutual
def tilefarmref6_Parts.j0 : Nat → Bool → Int → Int → Option (Int × Int × Bool)
  | 0, _, _, _ => none
  | k + 1, x5, x6, x7 => if x7 = 0 then (some (0, 0, true)) else (tilefarmref6_Parts.l0 k x5 (wrap64 (x6 - 1075)) x7)
def tilefarmref6_Parts.l0 : Nat → Bool → Int → Int → Option (Int × Int × Bool)
  | 0, _, _, _ => none
  | k + 1, x5, x6, x7 => if (Int.tmod x7 2) = 0 then (tilefarmref6_Parts.l0 k x5 (wrap64 (x6 + 1)) (wrap64 (Int.tdiv x7 2))) else (if x5 = true then (some (wrap64 (-x7), x6, true)) else (some (x7, x6, true)))
end
def tilefarmref6_Parts.f (k : Nat) (a0 : Int) : Option (Int × Int × Bool) := (tilefarmref6_Class.f k a0).bind fun t178 => (if t178 > 2 then (some (0, 0, false)) else ((tilefarmref6_fields.f a0).bind fun bt179 => (if bt179.2.1 > 0 then (tilefarmref6_Parts.j0 k bt179.1 bt179.2.1 (wrap64 (bt179.2.2 + 4503599627370496))) else (tilefarmref6_Parts.j0 k bt179.1 1 bt179.2.2))))
theorem tilefarmref6_Parts.mono_l : ∀ k, (∀ y0 y1 y2, LeO (tilefarmref6_Parts.j0 k y0 y1 y2) (tilefarmref6_Parts.j0 (k + 1) y0 y1 y2)) ∧ (∀ y0 y1 y2, LeO (tilefarmref6_Parts.l0 k y0 y1 y2) (tilefarmref6_Parts.l0 (k + 1) y0 y1 y2))
  | 0 => ⟨fun _ _ _ r h => by simp [tilefarmref6_Parts.j0] at h, fun _ _ _ r h => by simp [tilefarmref6_Parts.l0] at h⟩
  | k + 1 => by
    obtain ⟨ih0, ih1⟩ := tilefarmref6_Parts.mono_l k
    refine ⟨?_, ?_⟩
    · intro y0 y1 y2
      unfold tilefarmref6_Parts.j0
      repeat' first
      | (with_reducible exact ih0 _ _ _)
      | (with_reducible exact ih1 _ _ _)
      | (with_reducible exact tilefarmref6_Class.mono _ _)
      | (with_reducible exact LeO.refl _)
      | (with_reducible exact LeO.none _)
      | (with_reducible refine LeO.ite ?_ ?_)
      | (with_reducible refine LeO.bind ?_ (fun _ => ?_))
      | exact ih0 _ _ _
      | exact ih1 _ _ _
      | exact tilefarmref6_Class.mono _ _
      | exact LeO.none _
      | refine LeO.ite ?_ ?_
      | refine LeO.bind ?_ (fun _ => ?_)
    · intro y0 y1 y2
      unfold tilefarmref6_Parts.l0
      repeat' first
      | (with_reducible exact ih0 _ _ _)
      | (with_reducible exact ih1 _ _ _)
      | (with_reducible exact tilefarmref6_Class.mono _ _)
      | (with_reducible exact LeO.refl _)
      | (with_reducible exact LeO.none _)
      | (with_reducible refine LeO.ite ?_ ?_)
      | (with_reducible refine LeO.bind ?_ (fun _ => ?_))
      | exact ih0 _ _ _
      | exact ih1 _ _ _
      | exact tilefarmref6_Class.mono _ _
      | exact LeO.none _
      | refine LeO.ite ?_ ?_
      | refine LeO.bind ?_ (fun _ => ?_)
theorem tilefarmref6_Parts.mono : ∀ a0 k, LeO (tilefarmref6_Parts.f k a0) (tilefarmref6_Parts.f (k + 1) a0) := by
  intro a0 k
  obtain ⟨ih0, ih1⟩ := tilefarmref6_Parts.mono_l k
  unfold tilefarmref6_Parts.f
  repeat' first
      | (with_reducible exact ih0 _ _ _)
      | (with_reducible exact ih1 _ _ _)
      | (with_reducible exact tilefarmref6_Class.mono _ _)
      | (with_reducible exact LeO.refl _)
      | (with_reducible exact LeO.none _)
      | (with_reducible refine LeO.ite ?_ ?_)
      | (with_reducible refine LeO.bind ?_ (fun _ => ?_))
      | exact ih0 _ _ _
      | exact ih1 _ _ _
      | exact tilefarmref6_Class.mono _ _
      | exact LeO.none _
      | refine LeO.ite ?_ ?_
      | refine LeO.bind ?_ (fun _ => ?_)
set_option maxHeartbeats 8000000 in
set_option maxRecDepth 100000 in
theorem tilefarmref6_Parts.calls (k : Nat) (a0 : Int) (r1 : Int) (r2 : Int) (r3 : Bool) (w : World) (h : tilefarmref6_Parts.f k a0 = some (r1, r2, r3)) :
    Calls Try.prog 20 #[.int .u64 a0] w fun e w' => e = .returned (.tuple #[.int .i64 r1, .int .i64 r2, .bool r3]) ∧ Drawn0 w w' := by
  have H : ((tilefarmref6_Class.f k a0).bind fun t178 => (if t178 > 2 then (some (0, 0, false)) else ((tilefarmref6_fields.f a0).bind fun bt179 => (if bt179.2.1 > 0 then (tilefarmref6_Parts.j0 k bt179.1 bt179.2.1 (wrap64 (bt179.2.2 + 4503599627370496))) else (tilefarmref6_Parts.j0 k bt179.1 1 bt179.2.2))))) = some (r1, r2, r3) := h
  clear h
  replace H := Option.bind_eq_some_iff.mp H
  obtain ⟨t178, A20, H⟩ := H
  replace H : (if t178 > 2 then (some (0, 0, false)) else ((tilefarmref6_fields.f a0).bind fun bt179 => (if bt179.2.1 > 0 then (tilefarmref6_Parts.j0 k bt179.1 bt179.2.1 (wrap64 (bt179.2.2 + 4503599627370496))) else (tilefarmref6_Parts.j0 k bt179.1 1 bt179.2.2)))) = some (r1, r2, r3) := H
  have A2 := Aside0.mk A20
  clear A20
  by_cases c3 : t178 > 2
  · rw [if_pos c3] at H
    have c3b0 : decide (2 < t178) = true := decide_eq_true c3
    clear c3
    simp only [Option.some.injEq, Prod.mk.injEq] at H
    obtain ⟨rfl, rfl, rfl⟩ := H
    go_enter Try.func20, Try.ntmps20
    go_wp2_with (first | ((with_reducible refine gate_callee (f := 22) rfl ?_); refine goesL_ (some 9) rfl rfl Try.func22 (by kernel_rfl) rfl #[.int .u64 a0] rfl (by (try simp only [List.map_toArray, List.map_cons, List.map_nil]); first | done | rfl | (simp only [List.length_drop, List.length_take]; rfl)) ?_; (with_reducible refine (tilefarmref6_Class.calls k a0 t178 _ A2.out).mono ?_); rintro e w' ⟨rfl, ⟨nd, rfl⟩⟩; refine ⟨_, rfl, ?_⟩))
    go_ret3
    exact ⟨by first | rfl | (simp; done) | (simp [*]; done), by repeat (first | exact Drawn0.refl _ | apply Drawn0.step)⟩
  · rw [if_neg c3] at H
    have c3b0 : decide (2 < t178) = false := decide_eq_false c3
    clear c3
    replace H := Option.bind_eq_some_iff.mp H
    obtain ⟨⟨t179, t180, t181⟩, A40, H⟩ := H
    replace H : (if t180 > 0 then (tilefarmref6_Parts.j0 k t179 t180 (wrap64 (t181 + 4503599627370496))) else (tilefarmref6_Parts.j0 k t179 1 t181)) = some (r1, r2, r3) := H
    have A4 := Aside0.mk A40
    clear A40
    have HC5 := Aside0.mk H
    clear H
    go_enter Try.func20, Try.ntmps20
    go_upto_if 18 with (first | ((with_reducible refine gate_callee (f := 22) rfl ?_); refine goesL_ (some 9) rfl rfl Try.func22 (by kernel_rfl) rfl #[.int .u64 a0] rfl (by (try simp only [List.map_toArray, List.map_cons, List.map_nil]); first | done | rfl | (simp only [List.length_drop, List.length_take]; rfl)) ?_; (with_reducible refine (tilefarmref6_Class.calls k a0 t178 _ A2.out).mono ?_); rintro e w' ⟨rfl, ⟨nd, rfl⟩⟩; refine ⟨_, rfl, ?_⟩) | ((with_reducible refine gate_callee (f := 28) rfl ?_); refine goesL_ (some 13) rfl rfl Try.func28 (by kernel_rfl) rfl #[.int .u64 a0] rfl (by (try simp only [List.map_toArray, List.map_cons, List.map_nil]); first | done | rfl | (simp only [List.length_drop, List.length_take]; rfl)) ?_; (with_reducible refine (tilefarmref6_fields.calls a0 t179 t180 t181 _ A4.out).mono ?_); rintro e w' ⟨rfl, ⟨nd, rfl⟩⟩; refine ⟨_, rfl, ?_⟩))
    (try simp only [Act.put, List.setIfInBounds_toArray, List.set_cons_zero, List.set_cons_succ])
    go_cut [6, 7] (fun v6 v7 wc => ∃ (kq : Nat) (x6_4 : Int) (x7_4 : Int), v6 = .int .i64 x6_4 ∧ v7 = .int .i64 x7_4 ∧ Aside0 (tilefarmref6_Parts.j0 kq t179 x6_4 x7_4 = some (r1, r2, r3)) ∧ Aside0 (kq ≤ k) ∧ Drawn0 w wc)
    case first =>
      have H := HC5.out
      clear HC5
      by_cases c6 : t180 > 0
      · rw [if_pos c6] at H
        have c6b0 : decide (0 < t180) = true := decide_eq_true c6
        clear c6
        (first | rw [c6b0] | (simp only [i64_w, i32_w]; rw [c6b0]) | skip)
        have H' := Aside0.mk H
        clear H
        go_wp2
        go_meet
        case rel => exact ⟨_, (t180), (wrap64 (t181 + 4503599627370496)), (by first | rfl | (simp; done) | (simp [*]; done)), (by first | rfl | (simp; done) | (simp [*]; done)), H', ⟨by first | omega | exact Nat.le_refl _⟩, by repeat (first | exact Drawn0.refl _ | apply Drawn0.step)⟩
      · rw [if_neg c6] at H
        have c6b0 : decide (0 < t180) = false := decide_eq_false c6
        clear c6
        (first | rw [c6b0] | (simp only [i64_w, i32_w]; rw [c6b0]) | skip)
        have H' := Aside0.mk H
        clear H
        go_wp2
        go_meet
        case rel => exact ⟨_, (1), (t181), (by first | rfl | (simp; done) | (simp [*]; done)), (by first | rfl | (simp; done) | (simp [*]; done)), H', ⟨by first | omega | exact Nat.le_refl _⟩, by repeat (first | exact Drawn0.refl _ | apply Drawn0.step)⟩
    case rest =>
      clear HC5
      try clear c2
      try clear p2
      try clear c3
      try clear c3b0
      try clear c6
      try clear c6b0
      try clear p6
      obtain ⟨kq, x6_4, x7_4, rfl, rfl, HA, HJ4, ⟨mc4, rfl⟩⟩ := hcut
      cases kq with
      | zero => exact absurd HA.out (by simp [tilefarmref6_Parts.j0])
      | succ kj4 =>
        have H := HA.out
        clear HA
        simp only [tilefarmref6_Parts.j0] at H
        by_cases c7 : x7_4 = 0
        · rw [if_pos c7] at H
          have c7b0 : (x7_4 == 0) = true := beq_iff_eq.mpr c7
          have c7b1 : (x7_4 != 0) = false := bne_eq_false_iff_eq.mpr c7
          clear c7
          simp only [Option.some.injEq, Prod.mk.injEq] at H
          obtain ⟨rfl, rfl, rfl⟩ := H
          go_wp2
          go_ret3
          exact ⟨by first | rfl | (simp; done) | (simp [*]; done), by repeat (first | exact Drawn0.refl _ | apply Drawn0.step)⟩
        · rw [if_neg c7] at H
          have c7b0 : (x7_4 == 0) = false := beq_eq_false_iff_ne.mpr c7
          have c7b1 : (x7_4 != 0) = true := bne_iff_ne.mpr c7
          have H' := Aside0.mk H
          clear H
          go_wp2
          go_loopg [6, 7] kj4 (fun kq v6 v7 w' => ∃ (x6_2 : Int) (x7_2 : Int), v6 = .int .i64 x6_2 ∧ v7 = .int .i64 x7_2 ∧ Aside0 (tilefarmref6_Parts.l0 kq t179 x6_2 x7_2 = some (r1, r2, r3)) ∧ Aside0 (kq ≤ kj4) ∧ Drawn0 w w')
          case atStart => exact ⟨(wrap64 (x6_4 - 1075)), (x7_4), (by first | rfl | (simp; done) | (simp [*]; done)), (by first | rfl | (simp; done) | (simp [*]; done)), H', ⟨Nat.le_refl _⟩, by repeat (first | exact Drawn0.refl _ | apply Drawn0.step)⟩
          case round =>
            clear H'
            try clear c2
            try clear p2
            try clear c3
            try clear c3b0
            try clear c4
            try clear c6
            try clear c6b0
            try clear p6
            try clear c7
            try clear c7b0
            try clear c7b1
            try clear p2
            try clear p6
            obtain ⟨x6_2, x7_2, rfl, rfl, HA, HK2, ⟨m2, rfl⟩⟩ := hrel
            cases gk with
            | zero => exact absurd HA.out (by simp [tilefarmref6_Parts.l0])
            | succ k2 =>
              have H := HA.out
              clear HA
              simp only [tilefarmref6_Parts.l0] at H
              by_cases c8 : (Int.tmod x7_2 2) = 0
              · rw [if_pos c8] at H
                have c8b0 : ((Int.tmod x7_2 2) == 0) = true := beq_iff_eq.mpr c8
                have c8b1 : ((Int.tmod x7_2 2) != 0) = false := bne_eq_false_iff_eq.mpr c8
                clear c8
                have H' := Aside0.mk H
                clear H
                go_wp2
                go_roundg k2
                case measure => have := HJ4.out; have := HK2.out; omega
                case rel => exact ⟨(wrap64 (x6_2 + 1)), (wrap64 (Int.tdiv x7_2 2)), (by first | rfl | (simp; done) | (simp [*]; done)), (by first | rfl | (simp; done) | (simp [*]; done)), H', ⟨by have := HJ4.out; have := HK2.out; omega⟩, by repeat (first | exact Drawn0.refl _ | apply Drawn0.step)⟩
              · rw [if_neg c8] at H
                have c8b0 : ((Int.tmod x7_2 2) == 0) = false := beq_eq_false_iff_ne.mpr c8
                have c8b1 : ((Int.tmod x7_2 2) != 0) = true := bne_iff_ne.mpr c8
                by_cases c9 : t179 = true
                · subst c9
                  have H1 : (some (wrap64 (-x7_2), x6_2, true)) = some (r1, r2, r3) := by rw [if_pos rfl] at H; exact H
                  clear H
                  have H := H1
                  clear H1
                  simp only [Option.some.injEq, Prod.mk.injEq] at H
                  obtain ⟨rfl, rfl, rfl⟩ := H
                  go_wp2
                  go_ret3
                  exact ⟨by first | rfl | (simp; done) | (simp [*]; done), by repeat (first | exact Drawn0.refl _ | apply Drawn0.step)⟩
                · replace c9 := Bool.eq_false_iff.mpr c9
                  subst c9
                  have H1 : (some (x7_2, x6_2, true)) = some (r1, r2, r3) := by rw [if_neg (show ¬ (false = true) by decide)] at H; exact H
                  clear H
                  have H := H1
                  clear H1
                  simp only [Option.some.injEq, Prod.mk.injEq] at H
                  obtain ⟨rfl, rfl, rfl⟩ := H
                  go_wp2
                  go_ret3
                  exact ⟨by first | rfl | (simp; done) | (simp [*]; done), by repeat (first | exact Drawn0.refl _ | apply Drawn0.step)⟩

/-! ### ieee_order: function 29 -/
def ieee_order.f (a0 : Int) : Option (Int) := if (a0 / 9223372036854775808) = 1 then (some (wrap64 (-(wrap64 (Go.bits .andNot .u64 a0 9223372036854775808))))) else (some (wrap64 (Go.bits .andNot .u64 a0 9223372036854775808)))
set_option maxHeartbeats 8000000 in
set_option maxRecDepth 100000 in
theorem ieee_order.calls (a0 : Int) (r : Int) (w : World) (h : ieee_order.f a0 = some r) :
    Calls Try.prog 29 #[.int .u64 a0] w fun e w' => e = .returned (.int .i64 r) ∧ Drawn0 w w' := by
  have H : (if (a0 / 9223372036854775808) = 1 then (some (wrap64 (-(wrap64 (Go.bits .andNot .u64 a0 9223372036854775808))))) else (some (wrap64 (Go.bits .andNot .u64 a0 9223372036854775808)))) = some r := h
  clear h
  by_cases c2 : (a0 / 9223372036854775808) = 1
  · rw [if_pos c2] at H
    have c2b0 : ((a0 / 9223372036854775808) == 1) = true := beq_iff_eq.mpr c2
    have c2b1 : ((a0 / 9223372036854775808) != 1) = false := bne_eq_false_iff_eq.mpr c2
    clear c2
    obtain rfl := Option.some.inj H
    go_enter Try.func29, Try.ntmps29
    go_wp2
    go_ret
    exact ⟨by first | rfl | (simp; done) | (simp [*]; done), by repeat (first | exact Drawn0.refl _ | apply Drawn0.step)⟩
  · rw [if_neg c2] at H
    have c2b0 : ((a0 / 9223372036854775808) == 1) = false := beq_eq_false_iff_ne.mpr c2
    have c2b1 : ((a0 / 9223372036854775808) != 1) = true := bne_iff_ne.mpr c2
    obtain rfl := Option.some.inj H
    go_enter Try.func29, Try.ntmps29
    go_wp2
    go_ret
    exact ⟨by first | rfl | (simp; done) | (simp [*]; done), by repeat (first | exact Drawn0.refl _ | apply Drawn0.step)⟩

/-! ### ieee_Compare: function 23 -/
def ieee_Compare.j0 : Nat → Int → Int → Bool → Option (Int × Bool)
  | 0, _, _, _ => none
  | k + 1, x0, x1, x15 => if x15 = true then (some (0, false)) else ((ieee_order.f x0).bind fun t184 => ((ieee_order.f x1).bind fun t185 => (if t184 < t185 then (some ((-1), true)) else (if t184 > t185 then (some (1, true)) else (some (0, true))))))
def ieee_Compare.f (k : Nat) (a0 : Int) (a1 : Int) : Option (Int × Bool) := (ieee_Class.f k a0).bind fun t182 => (if t182 = 4 then (ieee_Compare.j0 k a0 a1 true) else ((ieee_Class.f k a1).bind fun t183 => (ieee_Compare.j0 k a0 a1 (t183 == 4))))
theorem ieee_Compare.mono_l : ∀ k, (∀ y0 y1 y2, LeO (ieee_Compare.j0 k y0 y1 y2) (ieee_Compare.j0 (k + 1) y0 y1 y2))
  | 0 => fun _ _ _ r h => by simp [ieee_Compare.j0] at h
  | k + 1 => by
    have ih0 := ieee_Compare.mono_l k
    · intro y0 y1 y2
      unfold ieee_Compare.j0
      repeat' first
      | (with_reducible exact ih0 _ _ _)
      | (with_reducible exact ieee_Class.mono _ _)
      | (with_reducible exact LeO.refl _)
      | (with_reducible exact LeO.none _)
      | (with_reducible refine LeO.ite ?_ ?_)
      | (with_reducible refine LeO.bind ?_ (fun _ => ?_))
      | exact ih0 _ _ _
      | exact ieee_Class.mono _ _
      | exact LeO.none _
      | refine LeO.ite ?_ ?_
      | refine LeO.bind ?_ (fun _ => ?_)
theorem ieee_Compare.mono : ∀ a0 a1 k, LeO (ieee_Compare.f k a0 a1) (ieee_Compare.f (k + 1) a0 a1) := by
  intro a0 a1 k
  have ih0 := ieee_Compare.mono_l k
  unfold ieee_Compare.f
  repeat' first
      | (with_reducible exact ih0 _ _ _)
      | (with_reducible exact ieee_Class.mono _ _)
      | (with_reducible exact LeO.refl _)
      | (with_reducible exact LeO.none _)
      | (with_reducible refine LeO.ite ?_ ?_)
      | (with_reducible refine LeO.bind ?_ (fun _ => ?_))
      | exact ih0 _ _ _
      | exact ieee_Class.mono _ _
      | exact LeO.none _
      | refine LeO.ite ?_ ?_
      | refine LeO.bind ?_ (fun _ => ?_)
set_option maxHeartbeats 8000000 in
set_option maxRecDepth 100000 in
theorem ieee_Compare.calls (k : Nat) (a0 : Int) (a1 : Int) (r1 : Int) (r2 : Bool) (w : World) (h : ieee_Compare.f k a0 a1 = some (r1, r2)) :
    Calls Try.prog 23 #[.int .u64 a0, .int .u64 a1] w fun e w' => e = .returned (.tuple #[.int .i64 r1, .bool r2]) ∧ Drawn0 w w' := by
  have H : ((ieee_Class.f k a0).bind fun t182 => (if t182 = 4 then (ieee_Compare.j0 k a0 a1 true) else ((ieee_Class.f k a1).bind fun t183 => (ieee_Compare.j0 k a0 a1 (t183 == 4))))) = some (r1, r2) := h
  clear h
  have HC3 := Aside0.mk H
  clear H
  go_enter Try.func23, Try.ntmps23
  go_upto_region 1 with (fail)
  go_cut [15] (fun v15 wc => ∃ (kq : Nat) (x15_2 : Bool), v15 = .bool x15_2 ∧ Aside0 (ieee_Compare.j0 kq a0 a1 x15_2 = some (r1, r2)) ∧ Aside0 (kq ≤ k) ∧ Drawn0 w wc)
  case first =>
    have H := HC3.out
    clear HC3
    replace H := Option.bind_eq_some_iff.mp H
    obtain ⟨t182, A40, H⟩ := H
    replace H : (if t182 = 4 then (ieee_Compare.j0 k a0 a1 true) else ((ieee_Class.f k a1).bind fun t183 => (ieee_Compare.j0 k a0 a1 (t183 == 4)))) = some (r1, r2) := H
    have A4 := Aside0.mk A40
    clear A40
    by_cases c5 : t182 = 4
    · rw [if_pos c5] at H
      have c5b0 : (t182 == 4) = true := beq_iff_eq.mpr c5
      have c5b1 : (t182 != 4) = false := bne_eq_false_iff_eq.mpr c5
      clear c5
      (first | rw [c5b0] | (simp only [i64_w, i32_w]; rw [c5b0]) | skip)
      have H' := Aside0.mk H
      clear H
      go_wp2_with (first | ((with_reducible refine gate_callee (f := 21) rfl ?_); refine goesL_ (some 9) rfl rfl Try.func21 (by kernel_rfl) rfl #[.int .u64 a0] rfl (by (try simp only [List.map_toArray, List.map_cons, List.map_nil]); first | done | rfl | (simp only [List.length_drop, List.length_take]; rfl)) ?_; (with_reducible refine (ieee_Class.calls k a0 t182 _ A4.out).mono ?_); rintro e w' ⟨rfl, ⟨nd, rfl⟩⟩; refine ⟨_, rfl, ?_⟩))
      go_meet
      case rel => exact ⟨_, (true), (by first | rfl | (simp; done) | (simp [*]; done)), H', ⟨by first | omega | exact Nat.le_refl _⟩, by repeat (first | exact Drawn0.refl _ | apply Drawn0.step)⟩
    · rw [if_neg c5] at H
      have c5b0 : (t182 == 4) = false := beq_eq_false_iff_ne.mpr c5
      have c5b1 : (t182 != 4) = true := bne_iff_ne.mpr c5
      (first | rw [c5b0] | (simp only [i64_w, i32_w]; rw [c5b0]) | skip)
      replace H := Option.bind_eq_some_iff.mp H
      obtain ⟨t183, A60, H⟩ := H
      replace H : (ieee_Compare.j0 k a0 a1 (t183 == 4)) = some (r1, r2) := H
      have A6 := Aside0.mk A60
      clear A60
      have H' := Aside0.mk H
      clear H
      go_wp2_with (first | ((with_reducible refine gate_callee (f := 21) rfl ?_); refine goesL_ (some 9) rfl rfl Try.func21 (by kernel_rfl) rfl #[.int .u64 a0] rfl (by (try simp only [List.map_toArray, List.map_cons, List.map_nil]); first | done | rfl | (simp only [List.length_drop, List.length_take]; rfl)) ?_; (with_reducible refine (ieee_Class.calls k a0 t182 _ A4.out).mono ?_); rintro e w' ⟨rfl, ⟨nd, rfl⟩⟩; refine ⟨_, rfl, ?_⟩) | (go_at_call 21; (with_reducible refine (ieee_Class.calls k a1 t183 _ A6.out).mono ?_); rintro e w' ⟨rfl, ⟨nd, rfl⟩⟩))
      go_meet
      case rel => exact ⟨_, ((t183 == 4)), (by first | rfl | (simp; done) | (simp [*]; done)), H', ⟨by first | omega | exact Nat.le_refl _⟩, by repeat (first | exact Drawn0.refl _ | apply Drawn0.step)⟩
  case rest =>
    clear HC3
    try clear c2
    try clear p2
    try clear c5
    try clear c5b0
    try clear c5b1
    obtain ⟨kq, x15_2, rfl, HA, HJ2, ⟨mc2, rfl⟩⟩ := hcut
    cases kq with
    | zero => exact absurd HA.out (by simp [ieee_Compare.j0])
    | succ kj2 =>
      have H := HA.out
      clear HA
      simp only [ieee_Compare.j0] at H
      by_cases c7 : x15_2 = true
      · subst c7
        have H1 : (some (0, false)) = some (r1, r2) := by rw [if_pos rfl] at H; exact H
        clear H
        have H := H1
        clear H1
        simp only [Option.some.injEq, Prod.mk.injEq] at H
        obtain ⟨rfl, rfl⟩ := H
        go_wp2
        go_ret2
        exact ⟨by first | rfl | (simp; done) | (simp [*]; done), by repeat (first | exact Drawn0.refl _ | apply Drawn0.step)⟩
      · replace c7 := Bool.eq_false_iff.mpr c7
        subst c7
        have H1 : ((ieee_order.f a0).bind fun t184 => ((ieee_order.f a1).bind fun t185 => (if t184 < t185 then (some ((-1), true)) else (if t184 > t185 then (some (1, true)) else (some (0, true)))))) = some (r1, r2) := by rw [if_neg (show ¬ (false = true) by decide)] at H; exact H
        clear H
        have H := H1
        clear H1
        replace H := Option.bind_eq_some_iff.mp H
        obtain ⟨t184, A80, H⟩ := H
        replace H : ((ieee_order.f a1).bind fun t185 => (if t184 < t185 then (some ((-1), true)) else (if t184 > t185 then (some (1, true)) else (some (0, true))))) = some (r1, r2) := H
        have A8 := Aside0.mk A80
        clear A80
        replace H := Option.bind_eq_some_iff.mp H
        obtain ⟨t185, A90, H⟩ := H
        replace H : (if t184 < t185 then (some ((-1), true)) else (if t184 > t185 then (some (1, true)) else (some (0, true)))) = some (r1, r2) := H
        have A9 := Aside0.mk A90
        clear A90
        by_cases c10 : t184 < t185
        · rw [if_pos c10] at H
          have c10b0 : decide (t184 < t185) = true := decide_eq_true c10
          clear c10
          simp only [Option.some.injEq, Prod.mk.injEq] at H
          obtain ⟨rfl, rfl⟩ := H
          go_wp2_with (first | ((with_reducible refine gate_callee (f := 29) rfl ?_); refine goesL_ (some 17) rfl rfl Try.func29 (by kernel_rfl) rfl #[.int .u64 a0] rfl (by (try simp only [List.map_toArray, List.map_cons, List.map_nil]); first | done | rfl | (simp only [List.length_drop, List.length_take]; rfl)) ?_; (with_reducible refine (ieee_order.calls a0 t184 _ A8.out).mono ?_); rintro e w' ⟨rfl, ⟨nd, rfl⟩⟩; refine ⟨_, rfl, ?_⟩) | ((with_reducible refine gate_callee (f := 29) rfl ?_); refine goesL_ (some 19) rfl rfl Try.func29 (by kernel_rfl) rfl #[.int .u64 a1] rfl (by (try simp only [List.map_toArray, List.map_cons, List.map_nil]); first | done | rfl | (simp only [List.length_drop, List.length_take]; rfl)) ?_; (with_reducible refine (ieee_order.calls a1 t185 _ A9.out).mono ?_); rintro e w' ⟨rfl, ⟨nd, rfl⟩⟩; refine ⟨_, rfl, ?_⟩))
          go_ret2
          exact ⟨by first | rfl | (simp; done) | (simp [*]; done), by repeat (first | exact Drawn0.refl _ | apply Drawn0.step)⟩
        · rw [if_neg c10] at H
          have c10b0 : decide (t184 < t185) = false := decide_eq_false c10
          clear c10
          by_cases c11 : t184 > t185
          · rw [if_pos c11] at H
            have c11b0 : decide (t185 < t184) = true := decide_eq_true c11
            clear c11
            simp only [Option.some.injEq, Prod.mk.injEq] at H
            obtain ⟨rfl, rfl⟩ := H
            go_wp2_with (first | ((with_reducible refine gate_callee (f := 29) rfl ?_); refine goesL_ (some 17) rfl rfl Try.func29 (by kernel_rfl) rfl #[.int .u64 a0] rfl (by (try simp only [List.map_toArray, List.map_cons, List.map_nil]); first | done | rfl | (simp only [List.length_drop, List.length_take]; rfl)) ?_; (with_reducible refine (ieee_order.calls a0 t184 _ A8.out).mono ?_); rintro e w' ⟨rfl, ⟨nd, rfl⟩⟩; refine ⟨_, rfl, ?_⟩) | ((with_reducible refine gate_callee (f := 29) rfl ?_); refine goesL_ (some 19) rfl rfl Try.func29 (by kernel_rfl) rfl #[.int .u64 a1] rfl (by (try simp only [List.map_toArray, List.map_cons, List.map_nil]); first | done | rfl | (simp only [List.length_drop, List.length_take]; rfl)) ?_; (with_reducible refine (ieee_order.calls a1 t185 _ A9.out).mono ?_); rintro e w' ⟨rfl, ⟨nd, rfl⟩⟩; refine ⟨_, rfl, ?_⟩))
            go_ret2
            exact ⟨by first | rfl | (simp; done) | (simp [*]; done), by repeat (first | exact Drawn0.refl _ | apply Drawn0.step)⟩
          · rw [if_neg c11] at H
            have c11b0 : decide (t185 < t184) = false := decide_eq_false c11
            clear c11
            simp only [Option.some.injEq, Prod.mk.injEq] at H
            obtain ⟨rfl, rfl⟩ := H
            go_wp2_with (first | ((with_reducible refine gate_callee (f := 29) rfl ?_); refine goesL_ (some 17) rfl rfl Try.func29 (by kernel_rfl) rfl #[.int .u64 a0] rfl (by (try simp only [List.map_toArray, List.map_cons, List.map_nil]); first | done | rfl | (simp only [List.length_drop, List.length_take]; rfl)) ?_; (with_reducible refine (ieee_order.calls a0 t184 _ A8.out).mono ?_); rintro e w' ⟨rfl, ⟨nd, rfl⟩⟩; refine ⟨_, rfl, ?_⟩) | ((with_reducible refine gate_callee (f := 29) rfl ?_); refine goesL_ (some 19) rfl rfl Try.func29 (by kernel_rfl) rfl #[.int .u64 a1] rfl (by (try simp only [List.map_toArray, List.map_cons, List.map_nil]); first | done | rfl | (simp only [List.length_drop, List.length_take]; rfl)) ?_; (with_reducible refine (ieee_order.calls a1 t185 _ A9.out).mono ?_); rintro e w' ⟨rfl, ⟨nd, rfl⟩⟩; refine ⟨_, rfl, ?_⟩))
            go_ret2
            exact ⟨by first | rfl | (simp; done) | (simp [*]; done), by repeat (first | exact Drawn0.refl _ | apply Drawn0.step)⟩

/-! ### tilefarmref6_key: function 30 -/
def tilefarmref6_key.f (a0 : Int) : Option (Int) := if (a0 / 9223372036854775808) = 1 then (some (wrap64 (-(wrap64 (Go.bits .and .u64 a0 9223372036854775807))))) else (some (wrap64 (Go.bits .and .u64 a0 9223372036854775807)))
set_option maxHeartbeats 8000000 in
set_option maxRecDepth 100000 in
theorem tilefarmref6_key.calls (a0 : Int) (r : Int) (w : World) (h : tilefarmref6_key.f a0 = some r) :
    Calls Try.prog 30 #[.int .u64 a0] w fun e w' => e = .returned (.int .i64 r) ∧ Drawn0 w w' := by
  have H : (if (a0 / 9223372036854775808) = 1 then (some (wrap64 (-(wrap64 (Go.bits .and .u64 a0 9223372036854775807))))) else (some (wrap64 (Go.bits .and .u64 a0 9223372036854775807)))) = some r := h
  clear h
  by_cases c2 : (a0 / 9223372036854775808) = 1
  · rw [if_pos c2] at H
    have c2b0 : ((a0 / 9223372036854775808) == 1) = true := beq_iff_eq.mpr c2
    have c2b1 : ((a0 / 9223372036854775808) != 1) = false := bne_eq_false_iff_eq.mpr c2
    clear c2
    obtain rfl := Option.some.inj H
    go_enter Try.func30, Try.ntmps30
    go_wp2
    go_ret
    exact ⟨by first | rfl | (simp; done) | (simp [*]; done), by repeat (first | exact Drawn0.refl _ | apply Drawn0.step)⟩
  · rw [if_neg c2] at H
    have c2b0 : ((a0 / 9223372036854775808) == 1) = false := beq_eq_false_iff_ne.mpr c2
    have c2b1 : ((a0 / 9223372036854775808) != 1) = true := bne_iff_ne.mpr c2
    obtain rfl := Option.some.inj H
    go_enter Try.func30, Try.ntmps30
    go_wp2
    go_ret
    exact ⟨by first | rfl | (simp; done) | (simp [*]; done), by repeat (first | exact Drawn0.refl _ | apply Drawn0.step)⟩

/-! ### tilefarmref6_Compare: function 24 -/
def tilefarmref6_Compare.j0 : Nat → Int → Int → Bool → Option (Int × Bool)
  | 0, _, _, _ => none
  | k + 1, x0, x1, x15 => if x15 = true then (some (0, false)) else ((tilefarmref6_key.f x0).bind fun t188 => ((tilefarmref6_key.f x1).bind fun t189 => (if t188 < t189 then (some ((-1), true)) else (if t188 > t189 then (some (1, true)) else (some (0, true))))))
def tilefarmref6_Compare.f (k : Nat) (a0 : Int) (a1 : Int) : Option (Int × Bool) := (tilefarmref6_Class.f k a0).bind fun t186 => (if t186 = 4 then (tilefarmref6_Compare.j0 k a0 a1 true) else ((tilefarmref6_Class.f k a1).bind fun t187 => (tilefarmref6_Compare.j0 k a0 a1 (t187 == 4))))
theorem tilefarmref6_Compare.mono_l : ∀ k, (∀ y0 y1 y2, LeO (tilefarmref6_Compare.j0 k y0 y1 y2) (tilefarmref6_Compare.j0 (k + 1) y0 y1 y2))
  | 0 => fun _ _ _ r h => by simp [tilefarmref6_Compare.j0] at h
  | k + 1 => by
    have ih0 := tilefarmref6_Compare.mono_l k
    · intro y0 y1 y2
      unfold tilefarmref6_Compare.j0
      repeat' first
      | (with_reducible exact ih0 _ _ _)
      | (with_reducible exact tilefarmref6_Class.mono _ _)
      | (with_reducible exact LeO.refl _)
      | (with_reducible exact LeO.none _)
      | (with_reducible refine LeO.ite ?_ ?_)
      | (with_reducible refine LeO.bind ?_ (fun _ => ?_))
      | exact ih0 _ _ _
      | exact tilefarmref6_Class.mono _ _
      | exact LeO.none _
      | refine LeO.ite ?_ ?_
      | refine LeO.bind ?_ (fun _ => ?_)
theorem tilefarmref6_Compare.mono : ∀ a0 a1 k, LeO (tilefarmref6_Compare.f k a0 a1) (tilefarmref6_Compare.f (k + 1) a0 a1) := by
  intro a0 a1 k
  have ih0 := tilefarmref6_Compare.mono_l k
  unfold tilefarmref6_Compare.f
  repeat' first
      | (with_reducible exact ih0 _ _ _)
      | (with_reducible exact tilefarmref6_Class.mono _ _)
      | (with_reducible exact LeO.refl _)
      | (with_reducible exact LeO.none _)
      | (with_reducible refine LeO.ite ?_ ?_)
      | (with_reducible refine LeO.bind ?_ (fun _ => ?_))
      | exact ih0 _ _ _
      | exact tilefarmref6_Class.mono _ _
      | exact LeO.none _
      | refine LeO.ite ?_ ?_
      | refine LeO.bind ?_ (fun _ => ?_)
set_option maxHeartbeats 8000000 in
set_option maxRecDepth 100000 in
theorem tilefarmref6_Compare.calls (k : Nat) (a0 : Int) (a1 : Int) (r1 : Int) (r2 : Bool) (w : World) (h : tilefarmref6_Compare.f k a0 a1 = some (r1, r2)) :
    Calls Try.prog 24 #[.int .u64 a0, .int .u64 a1] w fun e w' => e = .returned (.tuple #[.int .i64 r1, .bool r2]) ∧ Drawn0 w w' := by
  have H : ((tilefarmref6_Class.f k a0).bind fun t186 => (if t186 = 4 then (tilefarmref6_Compare.j0 k a0 a1 true) else ((tilefarmref6_Class.f k a1).bind fun t187 => (tilefarmref6_Compare.j0 k a0 a1 (t187 == 4))))) = some (r1, r2) := h
  clear h
  have HC3 := Aside0.mk H
  clear H
  go_enter Try.func24, Try.ntmps24
  go_upto_region 1 with (fail)
  go_cut [15] (fun v15 wc => ∃ (kq : Nat) (x15_2 : Bool), v15 = .bool x15_2 ∧ Aside0 (tilefarmref6_Compare.j0 kq a0 a1 x15_2 = some (r1, r2)) ∧ Aside0 (kq ≤ k) ∧ Drawn0 w wc)
  case first =>
    have H := HC3.out
    clear HC3
    replace H := Option.bind_eq_some_iff.mp H
    obtain ⟨t186, A40, H⟩ := H
    replace H : (if t186 = 4 then (tilefarmref6_Compare.j0 k a0 a1 true) else ((tilefarmref6_Class.f k a1).bind fun t187 => (tilefarmref6_Compare.j0 k a0 a1 (t187 == 4)))) = some (r1, r2) := H
    have A4 := Aside0.mk A40
    clear A40
    by_cases c5 : t186 = 4
    · rw [if_pos c5] at H
      have c5b0 : (t186 == 4) = true := beq_iff_eq.mpr c5
      have c5b1 : (t186 != 4) = false := bne_eq_false_iff_eq.mpr c5
      clear c5
      (first | rw [c5b0] | (simp only [i64_w, i32_w]; rw [c5b0]) | skip)
      have H' := Aside0.mk H
      clear H
      go_wp2_with (first | ((with_reducible refine gate_callee (f := 22) rfl ?_); refine goesL_ (some 9) rfl rfl Try.func22 (by kernel_rfl) rfl #[.int .u64 a0] rfl (by (try simp only [List.map_toArray, List.map_cons, List.map_nil]); first | done | rfl | (simp only [List.length_drop, List.length_take]; rfl)) ?_; (with_reducible refine (tilefarmref6_Class.calls k a0 t186 _ A4.out).mono ?_); rintro e w' ⟨rfl, ⟨nd, rfl⟩⟩; refine ⟨_, rfl, ?_⟩))
      go_meet
      case rel => exact ⟨_, (true), (by first | rfl | (simp; done) | (simp [*]; done)), H', ⟨by first | omega | exact Nat.le_refl _⟩, by repeat (first | exact Drawn0.refl _ | apply Drawn0.step)⟩
    · rw [if_neg c5] at H
      have c5b0 : (t186 == 4) = false := beq_eq_false_iff_ne.mpr c5
      have c5b1 : (t186 != 4) = true := bne_iff_ne.mpr c5
      (first | rw [c5b0] | (simp only [i64_w, i32_w]; rw [c5b0]) | skip)
      replace H := Option.bind_eq_some_iff.mp H
      obtain ⟨t187, A60, H⟩ := H
      replace H : (tilefarmref6_Compare.j0 k a0 a1 (t187 == 4)) = some (r1, r2) := H
      have A6 := Aside0.mk A60
      clear A60
      have H' := Aside0.mk H
      clear H
      go_wp2_with (first | ((with_reducible refine gate_callee (f := 22) rfl ?_); refine goesL_ (some 9) rfl rfl Try.func22 (by kernel_rfl) rfl #[.int .u64 a0] rfl (by (try simp only [List.map_toArray, List.map_cons, List.map_nil]); first | done | rfl | (simp only [List.length_drop, List.length_take]; rfl)) ?_; (with_reducible refine (tilefarmref6_Class.calls k a0 t186 _ A4.out).mono ?_); rintro e w' ⟨rfl, ⟨nd, rfl⟩⟩; refine ⟨_, rfl, ?_⟩) | (go_at_call 22; (with_reducible refine (tilefarmref6_Class.calls k a1 t187 _ A6.out).mono ?_); rintro e w' ⟨rfl, ⟨nd, rfl⟩⟩))
      go_meet
      case rel => exact ⟨_, ((t187 == 4)), (by first | rfl | (simp; done) | (simp [*]; done)), H', ⟨by first | omega | exact Nat.le_refl _⟩, by repeat (first | exact Drawn0.refl _ | apply Drawn0.step)⟩
  case rest =>
    clear HC3
    try clear c2
    try clear p2
    try clear c5
    try clear c5b0
    try clear c5b1
    obtain ⟨kq, x15_2, rfl, HA, HJ2, ⟨mc2, rfl⟩⟩ := hcut
    cases kq with
    | zero => exact absurd HA.out (by simp [tilefarmref6_Compare.j0])
    | succ kj2 =>
      have H := HA.out
      clear HA
      simp only [tilefarmref6_Compare.j0] at H
      by_cases c7 : x15_2 = true
      · subst c7
        have H1 : (some (0, false)) = some (r1, r2) := by rw [if_pos rfl] at H; exact H
        clear H
        have H := H1
        clear H1
        simp only [Option.some.injEq, Prod.mk.injEq] at H
        obtain ⟨rfl, rfl⟩ := H
        go_wp2
        go_ret2
        exact ⟨by first | rfl | (simp; done) | (simp [*]; done), by repeat (first | exact Drawn0.refl _ | apply Drawn0.step)⟩
      · replace c7 := Bool.eq_false_iff.mpr c7
        subst c7
        have H1 : ((tilefarmref6_key.f a0).bind fun t188 => ((tilefarmref6_key.f a1).bind fun t189 => (if t188 < t189 then (some ((-1), true)) else (if t188 > t189 then (some (1, true)) else (some (0, true)))))) = some (r1, r2) := by rw [if_neg (show ¬ (false = true) by decide)] at H; exact H
        clear H
        have H := H1
        clear H1
        replace H := Option.bind_eq_some_iff.mp H
        obtain ⟨t188, A80, H⟩ := H
        replace H : ((tilefarmref6_key.f a1).bind fun t189 => (if t188 < t189 then (some ((-1), true)) else (if t188 > t189 then (some (1, true)) else (some (0, true))))) = some (r1, r2) := H
        have A8 := Aside0.mk A80
        clear A80
        replace H := Option.bind_eq_some_iff.mp H
        obtain ⟨t189, A90, H⟩ := H
        replace H : (if t188 < t189 then (some ((-1), true)) else (if t188 > t189 then (some (1, true)) else (some (0, true)))) = some (r1, r2) := H
        have A9 := Aside0.mk A90
        clear A90
        by_cases c10 : t188 < t189
        · rw [if_pos c10] at H
          have c10b0 : decide (t188 < t189) = true := decide_eq_true c10
          clear c10
          simp only [Option.some.injEq, Prod.mk.injEq] at H
          obtain ⟨rfl, rfl⟩ := H
          go_wp2_with (first | ((with_reducible refine gate_callee (f := 30) rfl ?_); refine goesL_ (some 17) rfl rfl Try.func30 (by kernel_rfl) rfl #[.int .u64 a0] rfl (by (try simp only [List.map_toArray, List.map_cons, List.map_nil]); first | done | rfl | (simp only [List.length_drop, List.length_take]; rfl)) ?_; (with_reducible refine (tilefarmref6_key.calls a0 t188 _ A8.out).mono ?_); rintro e w' ⟨rfl, ⟨nd, rfl⟩⟩; refine ⟨_, rfl, ?_⟩) | ((with_reducible refine gate_callee (f := 30) rfl ?_); refine goesL_ (some 19) rfl rfl Try.func30 (by kernel_rfl) rfl #[.int .u64 a1] rfl (by (try simp only [List.map_toArray, List.map_cons, List.map_nil]); first | done | rfl | (simp only [List.length_drop, List.length_take]; rfl)) ?_; (with_reducible refine (tilefarmref6_key.calls a1 t189 _ A9.out).mono ?_); rintro e w' ⟨rfl, ⟨nd, rfl⟩⟩; refine ⟨_, rfl, ?_⟩))
          go_ret2
          exact ⟨by first | rfl | (simp; done) | (simp [*]; done), by repeat (first | exact Drawn0.refl _ | apply Drawn0.step)⟩
        · rw [if_neg c10] at H
          have c10b0 : decide (t188 < t189) = false := decide_eq_false c10
          clear c10
          by_cases c11 : t188 > t189
          · rw [if_pos c11] at H
            have c11b0 : decide (t189 < t188) = true := decide_eq_true c11
            clear c11
            simp only [Option.some.injEq, Prod.mk.injEq] at H
            obtain ⟨rfl, rfl⟩ := H
            go_wp2_with (first | ((with_reducible refine gate_callee (f := 30) rfl ?_); refine goesL_ (some 17) rfl rfl Try.func30 (by kernel_rfl) rfl #[.int .u64 a0] rfl (by (try simp only [List.map_toArray, List.map_cons, List.map_nil]); first | done | rfl | (simp only [List.length_drop, List.length_take]; rfl)) ?_; (with_reducible refine (tilefarmref6_key.calls a0 t188 _ A8.out).mono ?_); rintro e w' ⟨rfl, ⟨nd, rfl⟩⟩; refine ⟨_, rfl, ?_⟩) | ((with_reducible refine gate_callee (f := 30) rfl ?_); refine goesL_ (some 19) rfl rfl Try.func30 (by kernel_rfl) rfl #[.int .u64 a1] rfl (by (try simp only [List.map_toArray, List.map_cons, List.map_nil]); first | done | rfl | (simp only [List.length_drop, List.length_take]; rfl)) ?_; (with_reducible refine (tilefarmref6_key.calls a1 t189 _ A9.out).mono ?_); rintro e w' ⟨rfl, ⟨nd, rfl⟩⟩; refine ⟨_, rfl, ?_⟩))
            go_ret2
            exact ⟨by first | rfl | (simp; done) | (simp [*]; done), by repeat (first | exact Drawn0.refl _ | apply Drawn0.step)⟩
          · rw [if_neg c11] at H
            have c11b0 : decide (t189 < t188) = false := decide_eq_false c11
            clear c11
            simp only [Option.some.injEq, Prod.mk.injEq] at H
            obtain ⟨rfl, rfl⟩ := H
            go_wp2_with (first | ((with_reducible refine gate_callee (f := 30) rfl ?_); refine goesL_ (some 17) rfl rfl Try.func30 (by kernel_rfl) rfl #[.int .u64 a0] rfl (by (try simp only [List.map_toArray, List.map_cons, List.map_nil]); first | done | rfl | (simp only [List.length_drop, List.length_take]; rfl)) ?_; (with_reducible refine (tilefarmref6_key.calls a0 t188 _ A8.out).mono ?_); rintro e w' ⟨rfl, ⟨nd, rfl⟩⟩; refine ⟨_, rfl, ?_⟩) | ((with_reducible refine gate_callee (f := 30) rfl ?_); refine goesL_ (some 19) rfl rfl Try.func30 (by kernel_rfl) rfl #[.int .u64 a1] rfl (by (try simp only [List.map_toArray, List.map_cons, List.map_nil]); first | done | rfl | (simp only [List.length_drop, List.length_take]; rfl)) ?_; (with_reducible refine (tilefarmref6_key.calls a1 t189 _ A9.out).mono ?_); rintro e w' ⟨rfl, ⟨nd, rfl⟩⟩; refine ⟨_, rfl, ?_⟩))
            go_ret2
            exact ⟨by first | rfl | (simp; done) | (simp [*]; done), by repeat (first | exact Drawn0.refl _ | apply Drawn0.step)⟩

end Go.Proofs.Ytoamkepelnphaaa.PIeeeReads
