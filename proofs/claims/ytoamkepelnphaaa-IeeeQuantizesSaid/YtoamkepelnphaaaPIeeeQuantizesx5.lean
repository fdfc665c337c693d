-- Written by a program of the session (wip/tools/myprint.py) over the kit's printer; checked by Lean.
import Derived.Test.YtoamkepelnphaaaPIeeeQuantizesx0
import Derived.Test.YtoamkepelnphaaaPIeeeQuantizesx4
namespace Go.Proofs.Ytoamkepelnphaaa.PIeeeQuantizes
open Go.RowKit Go.Proofs.YtoamkepelnphaaaW.PrintWords Go.Proofs.YtoamkepelnphaaaW.PrintLast Go.Proofs.YtoamkepelnphaaaW.PrintMore
attribute [local go_sem] max2_int min2_int max_two min_two max_three min_three max_four min_four   -- for this text's walks alone
set_option linter.unusedVariables false
set_option linter.unusedSimpArgs false

/-! ### tilefarmref6_Scale: function 13 -/
mutual
def tilefarmref6_Scale.j0 : Nat → Int → Int → Bool → Option (Int × Int)
  | 0, _, _, _ => none
  | k + 1, x0, x1, x18 => if x18 = true then (some (0, 2)) else ((tilefarmref6_Parts.f k x0).bind fun bt200 => (if bt200.2.2 = true then (if bt200.1 < 0 then (tilefarmref6_Scale.j1 k x1 (wrap64 (-bt200.1)) bt200.2.1 (decide (bt200.1 < 0))) else (tilefarmref6_Scale.j1 k x1 bt200.1 bt200.2.1 (decide (bt200.1 < 0)))) else (some (0, 1))))
def tilefarmref6_Scale.j1 : Nat → Int → Int → Int → Bool → Option (Int × Int)
  | 0, _, _, _, _ => none
  | k + 1, x1, x6, x7, x9 => if x6 = 0 then (tilefarmref6_Scale.j2 k x6 (wrap64 (x7 + x1)) x9 true) else (tilefarmref6_Scale.j2 k x6 (wrap64 (x7 + x1)) x9 (decide ((wrap64 (x7 + x1)) < (-60))))
def tilefarmref6_Scale.j2 : Nat → Int → Int → Bool → Bool → Option (Int × Int)
  | 0, _, _, _, _ => none
  | k + 1, x6, x7, x9, x35 => if x35 = true then (some (0, 0)) else (if x7 > 15 then (some (0, 3)) else (if x7 ≥ 0 then (if x6 > 32767 then (some (0, 3)) else (if 0 ≤ (IntKind.u64.wrap (x7)) then (tilefarmref6_Scale.j3 k x9 (shl .i64 x6 (IntKind.u64.wrap (x7)))) else (none))) else (if 0 ≤ (IntKind.u64.wrap (wrap64 (-x7))) then (if 0 ≤ (IntKind.u64.wrap (wrap64 ((wrap64 (-x7)) - 1))) then (if (wrap64 (x6 - (shl .i64 (shr .i64 x6 (IntKind.u64.wrap (wrap64 (-x7)))) (IntKind.u64.wrap (wrap64 (-x7)))))) > (shl .i64 1 (IntKind.u64.wrap (wrap64 ((wrap64 (-x7)) - 1)))) then (tilefarmref6_Scale.j3 k x9 (wrap64 ((shr .i64 x6 (IntKind.u64.wrap (wrap64 (-x7)))) + 1))) else (if (wrap64 (x6 - (shl .i64 (shr .i64 x6 (IntKind.u64.wrap (wrap64 (-x7)))) (IntKind.u64.wrap (wrap64 (-x7)))))) = (shl .i64 1 (IntKind.u64.wrap (wrap64 ((wrap64 (-x7)) - 1)))) then (if (Int.tmod (shr .i64 x6 (IntKind.u64.wrap (wrap64 (-x7)))) 2) = 1 then (tilefarmref6_Scale.j3 k x9 (wrap64 ((shr .i64 x6 (IntKind.u64.wrap (wrap64 (-x7)))) + 1))) else (tilefarmref6_Scale.j3 k x9 (shr .i64 x6 (IntKind.u64.wrap (wrap64 (-x7)))))) else (tilefarmref6_Scale.j3 k x9 (shr .i64 x6 (IntKind.u64.wrap (wrap64 (-x7))))))) else (none)) else (none))))
def tilefarmref6_Scale.j3 : Nat → Bool → Int → Option (Int × Int)
  | 0, _, _ => none
  | k + 1, x9, x10 => if x10 > 32767 then (some (0, 3)) else (if x9 = true then (some (wrap64 (-x10), 0)) else (some (x10, 0)))
end
def tilefarmref6_Scale.f (k : Nat) (a0 : Int) (a1 : Int) : Option (Int × Int) := if a1 < 0 then (tilefarmref6_Scale.j0 k a0 a1 true) else (tilefarmref6_Scale.j0 k a0 a1 (decide (a1 > 24)))
theorem tilefarmref6_Scale.mono_l : ∀ k, (∀ y0 y1 y2, LeO (tilefarmref6_Scale.j0 k y0 y1 y2) (tilefarmref6_Scale.j0 (k + 1) y0 y1 y2)) ∧ (∀ y0 y1 y2 y3, LeO (tilefarmref6_Scale.j1 k y0 y1 y2 y3) (tilefarmref6_Scale.j1 (k + 1) y0 y1 y2 y3)) ∧ (∀ y0 y1 y2 y3, LeO (tilefarmref6_Scale.j2 k y0 y1 y2 y3) (tilefarmref6_Scale.j2 (k + 1) y0 y1 y2 y3)) ∧ (∀ y0 y1, LeO (tilefarmref6_Scale.j3 k y0 y1) (tilefarmref6_Scale.j3 (k + 1) y0 y1))
  | 0 => ⟨fun _ _ _ r h => by simp [tilefarmref6_Scale.j0] at h, fun _ _ _ _ r h => by simp [tilefarmref6_Scale.j1] at h, fun _ _ _ _ r h => by simp [tilefarmref6_Scale.j2] at h, fun _ _ r h => by simp [tilefarmref6_Scale.j3] at h⟩
  | k + 1 => by
    obtain ⟨ih0, ih1, ih2, ih3⟩ := tilefarmref6_Scale.mono_l k
    refine ⟨?_, ?_, ?_, ?_⟩
    · intro y0 y1 y2
      unfold tilefarmref6_Scale.j0
      repeat' first
      | (with_reducible exact ih0 _ _ _)
      | (with_reducible exact ih1 _ _ _ _)
      | (with_reducible exact ih2 _ _ _ _)
      | (with_reducible exact ih3 _ _)
      | (with_reducible exact tilefarmref6_Parts.mono _ _)
      | (with_reducible exact LeO.refl _)
      | (with_reducible exact LeO.none _)
      | (with_reducible refine LeO.ite ?_ ?_)
      | (with_reducible refine LeO.bind ?_ (fun _ => ?_))
      | exact ih0 _ _ _
      | exact ih1 _ _ _ _
      | exact ih2 _ _ _ _
      | exact ih3 _ _
      | exact tilefarmref6_Parts.mono _ _
      | exact LeO.none _
      | refine LeO.ite ?_ ?_
      | refine LeO.bind ?_ (fun _ => ?_)
    · intro y0 y1 y2 y3
      unfold tilefarmref6_Scale.j1
      repeat' first
      | (with_reducible exact ih0 _ _ _)
      | (with_reducible exact ih1 _ _ _ _)
      | (with_reducible exact ih2 _ _ _ _)
      | (with_reducible exact ih3 _ _)
      | (with_reducible exact tilefarmref6_Parts.mono _ _)
      | (with_reducible exact LeO.refl _)
      | (with_reducible exact LeO.none _)
      | (with_reducible refine LeO.ite ?_ ?_)
      | (with_reducible refine LeO.bind ?_ (fun _ => ?_))
      | exact ih0 _ _ _
      | exact ih1 _ _ _ _
      | exact ih2 _ _ _ _
      | exact ih3 _ _
      | exact tilefarmref6_Parts.mono _ _
      | exact LeO.none _
      | refine LeO.ite ?_ ?_
      | refine LeO.bind ?_ (fun _ => ?_)
    · intro y0 y1 y2 y3
      unfold tilefarmref6_Scale.j2
      repeat' first
      | (with_reducible exact ih0 _ _ _)
      | (with_reducible exact ih1 _ _ _ _)
      | (with_reducible exact ih2 _ _ _ _)
      | (with_reducible exact ih3 _ _)
      | (with_reducible exact tilefarmref6_Parts.mono _ _)
      | (with_reducible exact LeO.refl _)
      | (with_reducible exact LeO.none _)
      | (with_reducible refine LeO.ite ?_ ?_)
      | (with_reducible refine LeO.bind ?_ (fun _ => ?_))
      | exact ih0 _ _ _
      | exact ih1 _ _ _ _
      | exact ih2 _ _ _ _
      | exact ih3 _ _
      | exact tilefarmref6_Parts.mono _ _
      | exact LeO.none _
      | refine LeO.ite ?_ ?_
      | refine LeO.bind ?_ (fun _ => ?_)
    · intro y0 y1
      unfold tilefarmref6_Scale.j3
      repeat' first
      | (with_reducible exact ih0 _ _ _)
      | (with_reducible exact ih1 _ _ _ _)
      | (with_reducible exact ih2 _ _ _ _)
      | (with_reducible exact ih3 _ _)
      | (with_reducible exact tilefarmref6_Parts.mono _ _)
      | (with_reducible exact LeO.refl _)
      | (with_reducible exact LeO.none _)
      | (with_reducible refine LeO.ite ?_ ?_)
      | (with_reducible refine LeO.bind ?_ (fun _ => ?_))
      | exact ih0 _ _ _
      | exact ih1 _ _ _ _
      | exact ih2 _ _ _ _
      | exact ih3 _ _
      | exact tilefarmref6_Parts.mono _ _
      | exact LeO.none _
      | refine LeO.ite ?_ ?_
      | refine LeO.bind ?_ (fun _ => ?_)
theorem tilefarmref6_Scale.mono : ∀ a0 a1 k, LeO (tilefarmref6_Scale.f k a0 a1) (tilefarmref6_Scale.f (k + 1) a0 a1) := by
  intro a0 a1 k
  obtain ⟨ih0, ih1, ih2, ih3⟩ := tilefarmref6_Scale.mono_l k
  unfold tilefarmref6_Scale.f
  repeat' first
      | (with_reducible exact ih0 _ _ _)
      | (with_reducible exact ih1 _ _ _ _)
      | (with_reducible exact ih2 _ _ _ _)
      | (with_reducible exact ih3 _ _)
      | (with_reducible exact tilefarmref6_Parts.mono _ _)
      | (with_reducible exact LeO.refl _)
      | (with_reducible exact LeO.none _)
      | (with_reducible refine LeO.ite ?_ ?_)
      | (with_reducible refine LeO.bind ?_ (fun _ => ?_))
      | exact ih0 _ _ _
      | exact ih1 _ _ _ _
      | exact ih2 _ _ _ _
      | exact ih3 _ _
      | exact tilefarmref6_Parts.mono _ _
      | exact LeO.none _
      | refine LeO.ite ?_ ?_
      | refine LeO.bind ?_ (fun _ => ?_)
set_option maxHeartbeats 8000000 in
set_option maxRecDepth 100000 in
theorem tilefarmref6_Scale.calls (k : Nat) (a0 : Int) (a1 : Int) (r1 : Int) (r2 : Int) (w : World) (h : tilefarmref6_Scale.f k a0 a1 = some (r1, r2)) :
    Calls Try.prog 13 #[.int .u64 a0, .int .i64 a1] w fun e w' => e = .returned (.tuple #[.int .i64 r1, .int .i64 r2]) ∧ Drawn0 w w' := by
  have H : (if a1 < 0 then (tilefarmref6_Scale.j0 k a0 a1 true) else (tilefarmref6_Scale.j0 k a0 a1 (decide (a1 > 24)))) = some (r1, r2) := h
  clear h
  have HC3 := Aside0.mk H
  clear H
  go_enter Try.func13, Try.ntmps13
  go_upto_region 1 with (fail)
  go_cut [18] (fun v18 wc => ∃ (kq : Nat) (x18_2 : Bool), v18 = .bool x18_2 ∧ Aside0 (tilefarmref6_Scale.j0 kq a0 a1 x18_2 = some (r1, r2)) ∧ Aside0 (kq ≤ k) ∧ Drawn0 w wc)
  case first =>
    have H := HC3.out
    clear HC3
    by_cases c4 : a1 < 0
    · rw [if_pos c4] at H
      have c4b0 : decide (a1 < 0) = true := decide_eq_true c4
      clear c4
      (first | rw [c4b0] | (simp only [i64_w, i32_w]; rw [c4b0]) | skip)
      have H' := Aside0.mk H
      clear H
      go_wp2
      go_meet
      case rel => exact ⟨_, (true), (by first | rfl | (simp; done) | (simp [*]; done)), H', ⟨by first | omega | exact Nat.le_refl _⟩, by repeat (first | exact Drawn0.refl _ | apply Drawn0.step)⟩
    · rw [if_neg c4] at H
      have c4b0 : decide (a1 < 0) = false := decide_eq_false c4
      clear c4
      (first | rw [c4b0] | (simp only [i64_w, i32_w]; rw [c4b0]) | skip)
      have H' := Aside0.mk H
      clear H
      go_wp2
      go_meet
      case rel => exact ⟨_, (decide (a1 > 24)), (by first | rfl | (simp; done) | (simp [*]; done)), H', ⟨by first | omega | exact Nat.le_refl _⟩, by repeat (first | exact Drawn0.refl _ | apply Drawn0.step)⟩
  case rest =>
    clear HC3
    try clear c1
    try clear p2
    try clear c4
    try clear c4b0
    obtain ⟨kq, x18_2, rfl, HA, HJ2, ⟨mc2, rfl⟩⟩ := hcut
    cases kq with
    | zero => exact absurd HA.out (by simp [tilefarmref6_Scale.j0])
    | succ kj2 =>
      have H := HA.out
      clear HA
      simp only [tilefarmref6_Scale.j0] at H
      by_cases c5 : x18_2 = true
      · subst c5
        have H1 : (some (0, 2)) = some (r1, r2) := by rw [if_pos rfl] at H; exact H
        clear H
        have H := H1
        clear H1
        simp only [Option.some.injEq, Prod.mk.injEq] at H
        obtain ⟨rfl, rfl⟩ := H
        go_wp2
        go_ret2
        exact ⟨by first | rfl | (simp; done) | (simp [*]; done), by repeat (first | exact Drawn0.refl _ | apply Drawn0.step)⟩
      · replace c5 := Bool.eq_false_iff.mpr c5
        subst c5
        have H1 : ((tilefarmref6_Parts.f kj2 a0).bind fun bt200 => (if bt200.2.2 = true then (if bt200.1 < 0 then (tilefarmref6_Scale.j1 kj2 a1 (wrap64 (-bt200.1)) bt200.2.1 (decide (bt200.1 < 0))) else (tilefarmref6_Scale.j1 kj2 a1 bt200.1 bt200.2.1 (decide (bt200.1 < 0)))) else (some (0, 1)))) = some (r1, r2) := by rw [if_neg (show ¬ (false = true) by decide)] at H; exact H
        clear H
        have H := H1
        clear H1
        replace H := Option.bind_eq_some_iff.mp H
        obtain ⟨⟨t200, t201, t202⟩, A60, H⟩ := H
        replace H : (if t202 = true then (if t200 < 0 then (tilefarmref6_Scale.j1 kj2 a1 (wrap64 (-t200)) t201 (decide (t200 < 0))) else (tilefarmref6_Scale.j1 kj2 a1 t200 t201 (decide (t200 < 0)))) else (some (0, 1))) = some (r1, r2) := H
        have A6 := Aside0.mk A60
        clear A60
        by_cases c7 : t202 = true
        · subst c7
          have H1 : (if t200 < 0 then (tilefarmref6_Scale.j1 kj2 a1 (wrap64 (-t200)) t201 (decide (t200 < 0))) else (tilefarmref6_Scale.j1 kj2 a1 t200 t201 (decide (t200 < 0)))) = some (r1, r2) := by rw [if_pos rfl] at H; exact H
          clear H
          have H := H1
          clear H1
          have HC8 := Aside0.mk H
          clear H
          go_upto_if 29 with (first | ((with_reducible refine gate_callee (f := 20) rfl ?_); refine goesL_ (some 21) rfl rfl Try.func20 (by kernel_rfl) rfl #[.int .u64 a0] rfl (by (try simp only [List.map_toArray, List.map_cons, List.map_nil]); first | done | rfl | (simp only [List.length_drop, List.length_take]; rfl)) ?_; (with_reducible refine (tilefarmref6_Parts.calls kj2 a0 t200 t201 true _ A6.out).mono ?_); rintro e w' ⟨rfl, ⟨nd, rfl⟩⟩; refine ⟨_, rfl, ?_⟩))
          (try simp only [Act.put, List.setIfInBounds_toArray, List.set_cons_zero, List.set_cons_succ])
          obtain ⟨jb, hjb⟩ : ∃ b_ : Bool, decide (t200 < 0) = b_ := ⟨_, rfl⟩
          (try rw [hjb])
          rw [hjb] at HC8
          go_cut [6] (fun v6 wc => ∃ (kq : Nat) (x6_7 : Int), v6 = .int .i64 x6_7 ∧ Aside0 (tilefarmref6_Scale.j1 kq a1 x6_7 t201 jb = some (r1, r2)) ∧ Aside0 (kq ≤ kj2) ∧ Drawn0 w wc)
          case first =>
            have H := HC8.out
            clear HC8
            by_cases c9 : t200 < 0
            · rw [if_pos c9] at H
              have c9b0 : decide (t200 < 0) = true := decide_eq_true c9
              have ejb := hjb.symm.trans c9b0
              subst ejb
              clear c9
              (first | rw [c9b0] | (simp only [i64_w, i32_w]; rw [c9b0]) | skip)
              have H' := Aside0.mk H
              clear H
              go_wp2
              go_meet
              case rel => exact ⟨_, (wrap64 (-t200)), (by first | rfl | (simp; done) | (simp [*]; done)), H', ⟨by have := HJ2.out; first | omega | exact Nat.le_refl _⟩, by repeat (first | exact Drawn0.refl _ | apply Drawn0.step)⟩
            · rw [if_neg c9] at H
              have c9b0 : decide (t200 < 0) = false := decide_eq_false c9
              have ejb := hjb.symm.trans c9b0
              subst ejb
              clear c9
              (first | rw [c9b0] | (simp only [i64_w, i32_w]; rw [c9b0]) | skip)
              have H' := Aside0.mk H
              clear H
              go_wp2
              go_meet
              case rel => exact ⟨_, (t200), (by first | rfl | (simp; done) | (simp [*]; done)), H', ⟨by have := HJ2.out; first | omega | exact Nat.le_refl _⟩, by repeat (first | exact Drawn0.refl _ | apply Drawn0.step)⟩
          case rest =>
            clear HC8
            try clear c1
            try clear c2
            try clear p2
            try clear c4
            try clear c4b0
            try clear c5
            try clear p6
            try clear c7
            try clear c9
            try clear c9b0
            try clear p2
            obtain ⟨kq, x6_7, rfl, HA, HJ7, ⟨mc7, rfl⟩⟩ := hcut
            cases kq with
            | zero => exact absurd HA.out (by simp [tilefarmref6_Scale.j1])
            | succ kj7 =>
              have H := HA.out
              clear HA
              simp only [tilefarmref6_Scale.j1] at H
              have HC10 := Aside0.mk H
              clear H
              go_upto_region 10 with (fail)
              go_cut [35] (fun v35 wc => ∃ (kq : Nat) (x35_9 : Bool), v35 = .bool x35_9 ∧ Aside0 (tilefarmref6_Scale.j2 kq x6_7 (wrap64 (t201 + a1)) jb x35_9 = some (r1, r2)) ∧ Aside0 (kq ≤ kj7) ∧ Drawn0 w wc)
              case first =>
                have H := HC10.out
                clear HC10
                by_cases c11 : x6_7 = 0
                · rw [if_pos c11] at H
                  have c11b0 : (x6_7 == 0) = true := beq_iff_eq.mpr c11
                  have c11b1 : (x6_7 != 0) = false := bne_eq_false_iff_eq.mpr c11
                  clear c11
                  (first | rw [c11b0] | (simp only [i64_w, i32_w]; rw [c11b0]) | skip)
                  have H' := Aside0.mk H
                  clear H
                  go_wp2
                  go_meet
                  case rel => exact ⟨_, (true), (by first | rfl | (simp; done) | (simp [*]; done)), H', ⟨by have := HJ2.out; have := HJ7.out; first | omega | exact Nat.le_refl _⟩, by repeat (first | exact Drawn0.refl _ | apply Drawn0.step)⟩
                · rw [if_neg c11] at H
                  have c11b0 : (x6_7 == 0) = false := beq_eq_false_iff_ne.mpr c11
                  have c11b1 : (x6_7 != 0) = true := bne_iff_ne.mpr c11
                  (first | rw [c11b0] | (simp only [i64_w, i32_w]; rw [c11b0]) | skip)
                  have H' := Aside0.mk H
                  clear H
                  go_wp2
                  go_meet
                  case rel => exact ⟨_, (decide ((wrap64 (t201 + a1)) < (-60))), (by first | rfl | (simp; done) | (simp [*]; done)), H', ⟨by have := HJ2.out; have := HJ7.out; first | omega | exact Nat.le_refl _⟩, by repeat (first | exact Drawn0.refl _ | apply Drawn0.step)⟩
              case rest =>
                clear HC10
                try clear c1
                try clear c2
                try clear p2
                try clear c4
                try clear c4b0
                try clear c5
                try clear p6
                try clear c7
                try clear c9
                try clear c9b0
                try clear c11
                try clear c11b0
                try clear c11b1
                try clear p2
                try clear p6
                obtain ⟨kq, x35_9, rfl, HA, HJ9, ⟨mc9, rfl⟩⟩ := hcut
                cases kq with
                | zero => exact absurd HA.out (by simp [tilefarmref6_Scale.j2])
                | succ kj9 =>
                  have H := HA.out
                  clear HA
                  simp only [tilefarmref6_Scale.j2] at H
                  by_cases c12 : x35_9 = true
                  · subst c12
                    have H1 : (some (0, 0)) = some (r1, r2) := by rw [if_pos rfl] at H; exact H
                    clear H
                    have H := H1
                    clear H1
                    simp only [Option.some.injEq, Prod.mk.injEq] at H
                    obtain ⟨rfl, rfl⟩ := H
                    go_wp2
                    go_ret2
                    exact ⟨by first | rfl | (simp; done) | (simp [*]; done), by repeat (first | exact Drawn0.refl _ | apply Drawn0.step)⟩
                  · replace c12 := Bool.eq_false_iff.mpr c12
                    subst c12
                    have H1 : (if (wrap64 (t201 + a1)) > 15 then (some (0, 3)) else (if (wrap64 (t201 + a1)) ≥ 0 then (if x6_7 > 32767 then (some (0, 3)) else (if 0 ≤ (IntKind.u64.wrap ((wrap64 (t201 + a1)))) then (tilefarmref6_Scale.j3 kj9 jb (shl .i64 x6_7 (IntKind.u64.wrap ((wrap64 (t201 + a1)))))) else (none))) else (if 0 ≤ (IntKind.u64.wrap (wrap64 (-(wrap64 (t201 + a1))))) then (if 0 ≤ (IntKind.u64.wrap (wrap64 ((wrap64 (-(wrap64 (t201 + a1)))) - 1))) then (if (wrap64 (x6_7 - (shl .i64 (shr .i64 x6_7 (IntKind.u64.wrap (wrap64 (-(wrap64 (t201 + a1)))))) (IntKind.u64.wrap (wrap64 (-(wrap64 (t201 + a1)))))))) > (shl .i64 1 (IntKind.u64.wrap (wrap64 ((wrap64 (-(wrap64 (t201 + a1)))) - 1)))) then (tilefarmref6_Scale.j3 kj9 jb (wrap64 ((shr .i64 x6_7 (IntKind.u64.wrap (wrap64 (-(wrap64 (t201 + a1)))))) + 1))) else (if (wrap64 (x6_7 - (shl .i64 (shr .i64 x6_7 (IntKind.u64.wrap (wrap64 (-(wrap64 (t201 + a1)))))) (IntKind.u64.wrap (wrap64 (-(wrap64 (t201 + a1)))))))) = (shl .i64 1 (IntKind.u64.wrap (wrap64 ((wrap64 (-(wrap64 (t201 + a1)))) - 1)))) then (if (Int.tmod (shr .i64 x6_7 (IntKind.u64.wrap (wrap64 (-(wrap64 (t201 + a1)))))) 2) = 1 then (tilefarmref6_Scale.j3 kj9 jb (wrap64 ((shr .i64 x6_7 (IntKind.u64.wrap (wrap64 (-(wrap64 (t201 + a1)))))) + 1))) else (tilefarmref6_Scale.j3 kj9 jb (shr .i64 x6_7 (IntKind.u64.wrap (wrap64 (-(wrap64 (t201 + a1)))))))) else (tilefarmref6_Scale.j3 kj9 jb (shr .i64 x6_7 (IntKind.u64.wrap (wrap64 (-(wrap64 (t201 + a1))))))))) else (none)) else (none)))) = some (r1, r2) := by rw [if_neg (show ¬ (false = true) by decide)] at H; exact H
                    clear H
                    have H := H1
                    clear H1
                    by_cases c13 : (wrap64 (t201 + a1)) > 15
                    · rw [if_pos c13] at H
                      have c13b0 : decide (15 < (wrap64 (t201 + a1))) = true := decide_eq_true c13
                      clear c13
                      simp only [Option.some.injEq, Prod.mk.injEq] at H
                      obtain ⟨rfl, rfl⟩ := H
                      go_wp2
                      go_ret2
                      exact ⟨by first | rfl | (simp; done) | (simp [*]; done), by repeat (first | exact Drawn0.refl _ | apply Drawn0.step)⟩
                    · rw [if_neg c13] at H
                      have c13b0 : decide (15 < (wrap64 (t201 + a1))) = false := decide_eq_false c13
                      clear c13
                      have HC14 := Aside0.mk H
                      clear H
                      go_upto_if 46 with (fail)
                      go_cut [10] (fun v10 wc => ∃ (kq : Nat) (x10_13 : Int), v10 = .int .i64 x10_13 ∧ Aside0 (tilefarmref6_Scale.j3 kq jb x10_13 = some (r1, r2)) ∧ Aside0 (kq ≤ kj9) ∧ Drawn0 w wc)
                      case first =>
                        have H := HC14.out
                        clear HC14
                        by_cases c15 : (wrap64 (t201 + a1)) ≥ 0
                        · rw [if_pos c15] at H
                          have c15b0 : decide (0 ≤ (wrap64 (t201 + a1))) = true := decide_eq_true c15
                          clear c15
                          (first | rw [c15b0] | (simp only [i64_w, i32_w]; rw [c15b0]) | skip)
                          by_cases c16 : x6_7 > 32767
                          · rw [if_pos c16] at H
                            have c16b0 : decide (32767 < x6_7) = true := decide_eq_true c16
                            clear c16
                            simp only [Option.some.injEq, Prod.mk.injEq] at H
                            obtain ⟨rfl, rfl⟩ := H
                            go_wp2
                            go_ret2
                            exact ⟨by first | rfl | (simp; done) | (simp [*]; done), by repeat (first | exact Drawn0.refl _ | apply Drawn0.step)⟩
                          · rw [if_neg c16] at H
                            have c16b0 : decide (32767 < x6_7) = false := decide_eq_false c16
                            clear c16
                            obtain ⟨ji17, hji17⟩ : ∃ j_ : Int, (IntKind.u64.wrap ((wrap64 (t201 + a1)))) = j_ := ⟨_, rfl⟩
                            replace H : (if 0 ≤ (ji17) then (tilefarmref6_Scale.j3 kj9 jb (shl .i64 x6_7 (ji17))) else (none)) = some (r1, r2) := by first | (rw [hji17] at H; exact H) | (simp only [hji17] at H ⊢; exact H)
                            by_cases c18 : 0 ≤ (ji17)
                            · rw [if_pos c18] at H
                              have c18b0 := eq_true c18
                              have c18b1 : decide (0 ≤ (ji17)) = true := decide_eq_true c18
                              clear c18
                              obtain ⟨ji19, hji19⟩ : ∃ j_ : Int, (shl .i64 x6_7 (ji17)) = j_ := ⟨_, rfl⟩
                              replace H : (tilefarmref6_Scale.j3 kj9 jb ji19) = some (r1, r2) := by first | (rw [hji19] at H; exact H) | (simp only [hji19] at H ⊢; exact H)
                              have hji19_ : (IntKind.i64.wrap (x6_7 * 2 ^ min (ji17).toNat 64)) = ji19 := hji19
                              have hji19z : (ji17) ≤ 64 → (IntKind.i64.wrap (x6_7 * 2 ^ (ji17).toNat)) = ji19 := shl_small hji19
                              have hji19y : (wrap64 (x6_7 * 2 ^ min (ji17).toNat 64)) = ji19 := (i64_w _).symm.trans hji19_
                              have hji19x : (ji17) ≤ 64 → (wrap64 (x6_7 * 2 ^ (ji17).toNat)) = ji19 := fun h_ => (i64_w _).symm.trans (hji19z h_)
                              have H' := Aside0.mk H
                              clear H
                              go_wp2
                              go_meet
                              case rel => exact ⟨_, (ji19), (by first | rfl | (simp; done) | (simp only [← hji19] <;> (first | rfl | simp)) | (simp [*]; done)), (by first | exact H' | ((try (rw [hji17])); (try (rw [hji19])); exact H')), ⟨by have := HJ2.out; have := HJ7.out; have := HJ9.out; first | omega | exact Nat.le_refl _⟩, by repeat (first | exact Drawn0.refl _ | apply Drawn0.step)⟩
                            · rw [if_neg c18] at H
                              exact absurd H (by simp)
                        · rw [if_neg c15] at H
                          have c15b0 : decide (0 ≤ (wrap64 (t201 + a1))) = false := decide_eq_false c15
                          clear c15
                          (first | rw [c15b0] | (simp only [i64_w, i32_w]; rw [c15b0]) | skip)
                          obtain ⟨ji20, hji20⟩ : ∃ j_ : Int, (IntKind.u64.wrap (wrap64 (-(wrap64 (t201 + a1))))) = j_ := ⟨_, rfl⟩
                          replace H : (if 0 ≤ (ji20) then (if 0 ≤ (IntKind.u64.wrap (wrap64 ((wrap64 (-(wrap64 (t201 + a1)))) - 1))) then (if (wrap64 (x6_7 - (shl .i64 (shr .i64 x6_7 (ji20)) (ji20)))) > (shl .i64 1 (IntKind.u64.wrap (wrap64 ((wrap64 (-(wrap64 (t201 + a1)))) - 1)))) then (tilefarmref6_Scale.j3 kj9 jb (wrap64 ((shr .i64 x6_7 (ji20)) + 1))) else (if (wrap64 (x6_7 - (shl .i64 (shr .i64 x6_7 (ji20)) (ji20)))) = (shl .i64 1 (IntKind.u64.wrap (wrap64 ((wrap64 (-(wrap64 (t201 + a1)))) - 1)))) then (if (Int.tmod (shr .i64 x6_7 (ji20)) 2) = 1 then (tilefarmref6_Scale.j3 kj9 jb (wrap64 ((shr .i64 x6_7 (ji20)) + 1))) else (tilefarmref6_Scale.j3 kj9 jb (shr .i64 x6_7 (ji20)))) else (tilefarmref6_Scale.j3 kj9 jb (shr .i64 x6_7 (ji20))))) else (none)) else (none)) = some (r1, r2) := by first | (rw [hji20] at H; exact H) | (simp only [hji20] at H ⊢; exact H)
                          by_cases c21 : 0 ≤ (ji20)
                          · rw [if_pos c21] at H
                            have c21b0 := eq_true c21
                            have c21b1 : decide (0 ≤ (ji20)) = true := decide_eq_true c21
                            clear c21
                            obtain ⟨ji22, hji22⟩ : ∃ j_ : Int, (shr .i64 x6_7 (ji20)) = j_ := ⟨_, rfl⟩
                            replace H : (if 0 ≤ (IntKind.u64.wrap (wrap64 ((wrap64 (-(wrap64 (t201 + a1)))) - 1))) then (if (wrap64 (x6_7 - (shl .i64 (ji22) (ji20)))) > (shl .i64 1 (IntKind.u64.wrap (wrap64 ((wrap64 (-(wrap64 (t201 + a1)))) - 1)))) then (tilefarmref6_Scale.j3 kj9 jb (wrap64 ((ji22) + 1))) else (if (wrap64 (x6_7 - (shl .i64 (ji22) (ji20)))) = (shl .i64 1 (IntKind.u64.wrap (wrap64 ((wrap64 (-(wrap64 (t201 + a1)))) - 1)))) then (if (Int.tmod (ji22) 2) = 1 then (tilefarmref6_Scale.j3 kj9 jb (wrap64 ((ji22) + 1))) else (tilefarmref6_Scale.j3 kj9 jb ji22)) else (tilefarmref6_Scale.j3 kj9 jb ji22))) else (none)) = some (r1, r2) := by first | (rw [hji22] at H; exact H) | (simp only [hji22] at H ⊢; exact H)
                            have hji22_ : (x6_7 / 2 ^ min (ji20).toNat 64) = ji22 := hji22
                            have hji22z : (ji20) ≤ 64 → (x6_7 / 2 ^ (ji20).toNat) = ji22 := shr_small hji22
                            have c23b0 := eq_true (of_decide_eq_true (by first | (with_reducible assumption) | assumption) : 0 ≤ (ji20))
                            obtain ⟨ji24, hji24⟩ : ∃ j_ : Int, (shl .i64 (ji22) (ji20)) = j_ := ⟨_, rfl⟩
                            replace H : (if 0 ≤ (IntKind.u64.wrap (wrap64 ((wrap64 (-(wrap64 (t201 + a1)))) - 1))) then (if (wrap64 (x6_7 - (ji24))) > (shl .i64 1 (IntKind.u64.wrap (wrap64 ((wrap64 (-(wrap64 (t201 + a1)))) - 1)))) then (tilefarmref6_Scale.j3 kj9 jb (wrap64 ((ji22) + 1))) else (if (wrap64 (x6_7 - (ji24))) = (shl .i64 1 (IntKind.u64.wrap (wrap64 ((wrap64 (-(wrap64 (t201 + a1)))) - 1)))) then (if (Int.tmod (ji22) 2) = 1 then (tilefarmref6_Scale.j3 kj9 jb (wrap64 ((ji22) + 1))) else (tilefarmref6_Scale.j3 kj9 jb ji22)) else (tilefarmref6_Scale.j3 kj9 jb ji22))) else (none)) = some (r1, r2) := by first | (rw [hji24] at H; exact H) | (simp only [hji24] at H ⊢; exact H)
                            have hji24_ : (IntKind.i64.wrap ((ji22) * 2 ^ min (ji20).toNat 64)) = ji24 := hji24
                            have hji24z : (ji20) ≤ 64 → (IntKind.i64.wrap ((ji22) * 2 ^ (ji20).toNat)) = ji24 := shl_small hji24
                            have hji24y : (wrap64 ((ji22) * 2 ^ min (ji20).toNat 64)) = ji24 := (i64_w _).symm.trans hji24_
                            have hji24x : (ji20) ≤ 64 → (wrap64 ((ji22) * 2 ^ (ji20).toNat)) = ji24 := fun h_ => (i64_w _).symm.trans (hji24z h_)
                            obtain ⟨ji25, hji25⟩ : ∃ j_ : Int, (IntKind.u64.wrap (wrap64 ((wrap64 (-(wrap64 (t201 + a1)))) - 1))) = j_ := ⟨_, rfl⟩
                            replace H : (if 0 ≤ (ji25) then (if (wrap64 (x6_7 - (ji24))) > (shl .i64 1 (ji25)) then (tilefarmref6_Scale.j3 kj9 jb (wrap64 ((ji22) + 1))) else (if (wrap64 (x6_7 - (ji24))) = (shl .i64 1 (ji25)) then (if (Int.tmod (ji22) 2) = 1 then (tilefarmref6_Scale.j3 kj9 jb (wrap64 ((ji22) + 1))) else (tilefarmref6_Scale.j3 kj9 jb ji22)) else (tilefarmref6_Scale.j3 kj9 jb ji22))) else (none)) = some (r1, r2) := by first | (rw [hji25] at H; exact H) | (simp only [hji25] at H ⊢; exact H)
                            by_cases c26 : 0 ≤ (ji25)
                            · rw [if_pos c26] at H
                              have c26b0 := eq_true c26
                              have c26b1 : decide (0 ≤ (ji25)) = true := decide_eq_true c26
                              clear c26
                              obtain ⟨ji27, hji27⟩ : ∃ j_ : Int, (shl .i64 1 (ji25)) = j_ := ⟨_, rfl⟩
                              replace H : (if (wrap64 (x6_7 - (ji24))) > (ji27) then (tilefarmref6_Scale.j3 kj9 jb (wrap64 ((ji22) + 1))) else (if (wrap64 (x6_7 - (ji24))) = (ji27) then (if (Int.tmod (ji22) 2) = 1 then (tilefarmref6_Scale.j3 kj9 jb (wrap64 ((ji22) + 1))) else (tilefarmref6_Scale.j3 kj9 jb ji22)) else (tilefarmref6_Scale.j3 kj9 jb ji22))) = some (r1, r2) := by first | (rw [hji27] at H; exact H) | (simp only [hji27] at H ⊢; exact H)
                              have hji27_ : (IntKind.i64.wrap (1 * 2 ^ min (ji25).toNat 64)) = ji27 := hji27
                              have hji27z : (ji25) ≤ 64 → (IntKind.i64.wrap (1 * 2 ^ (ji25).toNat)) = ji27 := shl_small hji27
                              have hji27u : (IntKind.i64.wrap (2 ^ min (ji25).toNat 64)) = ji27 := by have h_ := hji27_; rw [Int.one_mul] at h_; exact h_
                              have hji27v : (ji25) ≤ 64 → (IntKind.i64.wrap (2 ^ (ji25).toNat)) = ji27 := fun hle_ => by have h_ := hji27z hle_; rw [Int.one_mul] at h_; exact h_
                              have hji27y : (wrap64 (1 * 2 ^ min (ji25).toNat 64)) = ji27 := (i64_w _).symm.trans hji27_
                              have hji27x : (ji25) ≤ 64 → (wrap64 (1 * 2 ^ (ji25).toNat)) = ji27 := fun h_ => (i64_w _).symm.trans (hji27z h_)
                              by_cases c28 : (wrap64 (x6_7 - (ji24))) > (ji27)
                              · rw [if_pos c28] at H
                                have c28b0 : decide ((ji27) < (wrap64 (x6_7 - (ji24)))) = true := decide_eq_true c28
                                clear c28
                                have H' := Aside0.mk H
                                clear H
                                go_wp2
                                go_meet
                                case rel => exact ⟨_, (wrap64 ((ji22) + 1)), (by first | rfl | (simp; done) | (simp only [← hji22] <;> (first | rfl | simp)) | (simp [*]; done)), (by first | exact H' | ((try (rw [hji17])); (try (rw [hji19])); (try (rw [hji20])); (try (rw [hji22])); (try (rw [hji24])); (try (rw [hji25])); (try (rw [hji27])); exact H')), ⟨by have := HJ2.out; have := HJ7.out; have := HJ9.out; first | omega | exact Nat.le_refl _⟩, by repeat (first | exact Drawn0.refl _ | apply Drawn0.step)⟩
                              · rw [if_neg c28] at H
                                have c28b0 : decide ((ji27) < (wrap64 (x6_7 - (ji24)))) = false := decide_eq_false c28
                                clear c28
                                by_cases c29 : (wrap64 (x6_7 - (ji24))) = (ji27)
                                · rw [if_pos c29] at H
                                  have c29b0 : ((wrap64 (x6_7 - (ji24))) == (ji27)) = true := beq_iff_eq.mpr c29
                                  have c29b1 : ((wrap64 (x6_7 - (ji24))) != (ji27)) = false := bne_eq_false_iff_eq.mpr c29
                                  clear c29
                                  by_cases c30 : (Int.tmod (ji22) 2) = 1
                                  · rw [if_pos c30] at H
                                    have c30b0 : ((Int.tmod (ji22) 2) == 1) = true := beq_iff_eq.mpr c30
                                    have c30b1 : ((Int.tmod (ji22) 2) != 1) = false := bne_eq_false_iff_eq.mpr c30
                                    clear c30
                                    have H' := Aside0.mk H
                                    clear H
                                    go_wp2
                                    go_meet
                                    case rel => exact ⟨_, (wrap64 ((ji22) + 1)), (by first | rfl | (simp; done) | (simp only [← hji22] <;> (first | rfl | simp)) | (simp [*]; done)), (by first | exact H' | ((try (rw [hji17])); (try (rw [hji19])); (try (rw [hji20])); (try (rw [hji22])); (try (rw [hji24])); (try (rw [hji25])); (try (rw [hji27])); exact H')), ⟨by have := HJ2.out; have := HJ7.out; have := HJ9.out; first | omega | exact Nat.le_refl _⟩, by repeat (first | exact Drawn0.refl _ | apply Drawn0.step)⟩
                                  · rw [if_neg c30] at H
                                    have c30b0 : ((Int.tmod (ji22) 2) == 1) = false := beq_eq_false_iff_ne.mpr c30
                                    have c30b1 : ((Int.tmod (ji22) 2) != 1) = true := bne_iff_ne.mpr c30
                                    have H' := Aside0.mk H
                                    clear H
                                    go_wp2
                                    go_meet
                                    case rel => exact ⟨_, (ji22), (by first | rfl | (simp; done) | (simp only [← hji22] <;> (first | rfl | simp)) | (simp [*]; done)), (by first | exact H' | ((try (rw [hji17])); (try (rw [hji19])); (try (rw [hji20])); (try (rw [hji22])); (try (rw [hji24])); (try (rw [hji25])); (try (rw [hji27])); exact H')), ⟨by have := HJ2.out; have := HJ7.out; have := HJ9.out; first | omega | exact Nat.le_refl _⟩, by repeat (first | exact Drawn0.refl _ | apply Drawn0.step)⟩
                                · rw [if_neg c29] at H
                                  have c29b0 : ((wrap64 (x6_7 - (ji24))) == (ji27)) = false := beq_eq_false_iff_ne.mpr c29
                                  have c29b1 : ((wrap64 (x6_7 - (ji24))) != (ji27)) = true := bne_iff_ne.mpr c29
                                  have H' := Aside0.mk H
                                  clear H
                                  go_wp2
                                  go_meet
                                  case rel => exact ⟨_, (ji22), (by first | rfl | (simp; done) | (simp only [← hji22] <;> (first | rfl | simp)) | (simp [*]; done)), (by first | exact H' | ((try (rw [hji17])); (try (rw [hji19])); (try (rw [hji20])); (try (rw [hji22])); (try (rw [hji24])); (try (rw [hji25])); (try (rw [hji27])); exact H')), ⟨by have := HJ2.out; have := HJ7.out; have := HJ9.out; first | omega | exact Nat.le_refl _⟩, by repeat (first | exact Drawn0.refl _ | apply Drawn0.step)⟩
                            · rw [if_neg c26] at H
                              exact absurd H (by simp)
                          · rw [if_neg c21] at H
                            exact absurd H (by simp)
                      case rest =>
                        clear HC14
                        try clear c1
                        try clear c2
                        try clear p2
                        try clear c3
                        try clear c4
                        try clear c4b0
                        try clear c5
                        try clear p6
                        try clear c7
                        try clear c9
                        try clear c9b0
                        try clear c11
                        try clear c11b0
                        try clear c11b1
                        try clear c12
                        try clear c13
                        try clear c13b0
                        try clear c15
                        try clear c15b0
                        try clear c16
                        try clear c16b0
                        try clear c18
                        try clear c18b0
                        try clear c18b1
                        try clear c20
                        try clear c21
                        try clear c21b0
                        try clear c21b1
                        try clear c23
                        try clear c23b0
                        try clear c26
                        try clear c26b0
                        try clear c26b1
                        try clear c28
                        try clear c28b0
                        try clear c29
                        try clear c29b0
                        try clear c29b1
                        try clear c30
                        try clear c30b0
                        try clear c30b1
                        try clear p2
                        try clear p6
                        obtain ⟨kq, x10_13, rfl, HA, HJ13, ⟨mc13, rfl⟩⟩ := hcut
                        cases kq with
                        | zero => exact absurd HA.out (by simp [tilefarmref6_Scale.j3])
                        | succ kj13 =>
                          have H := HA.out
                          clear HA
                          simp only [tilefarmref6_Scale.j3] at H
                          by_cases c31 : x10_13 > 32767
                          · rw [if_pos c31] at H
                            have c31b0 : decide (32767 < x10_13) = true := decide_eq_true c31
                            clear c31
                            simp only [Option.some.injEq, Prod.mk.injEq] at H
                            obtain ⟨rfl, rfl⟩ := H
                            go_wp2
                            go_ret2
                            exact ⟨by first | rfl | (simp; done) | (simp [*]; done), by repeat (first | exact Drawn0.refl _ | apply Drawn0.step)⟩
                          · rw [if_neg c31] at H
                            have c31b0 : decide (32767 < x10_13) = false := decide_eq_false c31
                            clear c31
                            by_cases c32 : jb = true
                            · rw [if_pos c32] at H
                              have c32b0 : jb = true := c32
                              subst c32b0
                              clear c32
                              simp only [Option.some.injEq, Prod.mk.injEq] at H
                              obtain ⟨rfl, rfl⟩ := H
                              go_wp2
                              go_ret2
                              exact ⟨by first | rfl | (simp; done) | (simp [*]; done), by repeat (first | exact Drawn0.refl _ | apply Drawn0.step)⟩
                            · rw [if_neg c32] at H
                              have c32b0 : jb = false := by simpa using c32
                              subst c32b0
                              clear c32
                              simp only [Option.some.injEq, Prod.mk.injEq] at H
                              obtain ⟨rfl, rfl⟩ := H
                              go_wp2
                              go_ret2
                              exact ⟨by first | rfl | (simp; done) | (simp [*]; done), by repeat (first | exact Drawn0.refl _ | apply Drawn0.step)⟩
        · replace c7 := Bool.eq_false_iff.mpr c7
          subst c7
          have H1 : (some (0, 1)) = some (r1, r2) := by rw [if_neg (show ¬ (false = true) by decide)] at H; exact H
          clear H
          have H := H1
          clear H1
          simp only [Option.some.injEq, Prod.mk.injEq] at H
          obtain ⟨rfl, rfl⟩ := H
          go_wp2_with (first | ((with_reducible refine gate_callee (f := 20) rfl ?_); refine goesL_ (some 21) rfl rfl Try.func20 (by kernel_rfl) rfl #[.int .u64 a0] rfl (by (try simp only [List.map_toArray, List.map_cons, List.map_nil]); first | done | rfl | (simp only [List.length_drop, List.length_take]; rfl)) ?_; (with_reducible refine (tilefarmref6_Parts.calls kj2 a0 t200 t201 false _ A6.out).mono ?_); rintro e w' ⟨rfl, ⟨nd, rfl⟩⟩; refine ⟨_, rfl, ?_⟩))
          go_ret2
          exact ⟨by first | rfl | (simp; done) | (simp [*]; done), by repeat (first | exact Drawn0.refl _ | apply Drawn0.step)⟩

end Go.Proofs.Ytoamkepelnphaaa.PIeeeQuantizes
