-- Written by a program of the session (wip/tools/pack.py): the printed texts, pruned; checked by Lean.
import Derived.Test.YtcfllciehmgikaaKSeparableChecksa
import Derived.Test.YtcfllciehmgikaaKSeparableChecksx0
namespace Go.Proofs.Ytcfllciehmgikaa.PSeparableChecks
open Go.RowKit Go.Proofs.YtcfllciehmgikaaW.PrintWords Go.Proofs.YtcfllciehmgikaaW.PrintLast Go.Proofs.YtcfllciehmgikaaW.PrintMore
attribute [local go_sem] max2_int min2_int max_two min_two max_three min_three max_four min_four   -- for this text's walks alone
set_option linter.unusedVariables false
set_option linter.unusedSimpArgs false
def tilefarmref7_IsWeight.f (a0 : Int) : Option (Bool) := if a0 ≥ (-32767) then (some (decide (a0 ≤ 32767))) else (some false)
set_option maxHeartbeats 8000000 in
set_option maxRecDepth 100000 in
theorem tilefarmref7_IsWeight.calls (a0 : Int) (r : Bool) (w : World) (h : tilefarmref7_IsWeight.f a0 = some r) :
    Calls Try.prog 62 #[.int .i64 a0] w fun e w' => e = .returned (.bool r) ∧ Drawn0 w w' := by
  have H : (if a0 ≥ (-32767) then (some (decide (a0 ≤ 32767))) else (some false)) = some r := h
  clear h
  by_cases c2 : a0 ≥ (-32767)
  · rw [if_pos c2] at H
    have c2b0 : decide ((-32767) ≤ a0) = true := decide_eq_true c2
    clear c2
    obtain rfl := Option.some.inj H
    go_enter Try.func62, Try.ntmps62
    go_wp2
    go_ret
    exact ⟨q109_, q106_⟩
  · rw [if_neg c2] at H
    have c2b0 : decide ((-32767) ≤ a0) = false := decide_eq_false c2
    clear c2
    obtain rfl := Option.some.inj H
    go_enter Try.func62, Try.ntmps62
    go_wp2
    go_ret
    exact ⟨q109_, q106_⟩


def tilefarmref7_AreWeights.l0 : Nat → List Int → Int → Option (Bool)
  | 0, _, _ => none
  | k + 1, x0, x3 => if x3 < (x0.length : Int) then (if 0 ≤ x3 then ((tilefarmref7_IsWeight.f (rd x0 x3)).bind fun t137 => (if t137 = true then (tilefarmref7_AreWeights.l0 k x0 (wrap64 (x3 + 1))) else (some false))) else (none)) else (some true)
def tilefarmref7_AreWeights.f (k : Nat) (l0 : List Int) : Option (Bool) := tilefarmref7_AreWeights.l0 k l0 0
theorem tilefarmref7_AreWeights.mono_l : ∀ k, (∀ y0 y1, LeO (tilefarmref7_AreWeights.l0 k y0 y1) (tilefarmref7_AreWeights.l0 (k + 1) y0 y1))
  | 0 => fun _ _ r h => by simp [tilefarmref7_AreWeights.l0] at h
  | k + 1 => by
    have ih0 := tilefarmref7_AreWeights.mono_l k
    · intro y0 y1
      unfold tilefarmref7_AreWeights.l0
      repeat' first
      | (with_reducible exact ih0 _ _)
      | (with_reducible exact LeO.refl _)
      | (with_reducible exact LeO.none _)
      | (with_reducible refine LeO.ite ?_ ?_)
      | (with_reducible refine LeO.bind ?_ (fun _ => ?_))
      | exact ih0 _ _
      | exact LeO.none _
      | refine LeO.ite ?_ ?_
      | refine LeO.bind ?_ (fun _ => ?_)
theorem tilefarmref7_AreWeights.mono : ∀ a0 k, LeO (tilefarmref7_AreWeights.f k a0) (tilefarmref7_AreWeights.f (k + 1) a0) := by
  intro a0 k
  have ih0 := tilefarmref7_AreWeights.mono_l k
  unfold tilefarmref7_AreWeights.f
  repeat' first
      | (with_reducible exact ih0 _ _)
      | (with_reducible exact LeO.refl _)
      | (with_reducible exact LeO.none _)
      | (with_reducible refine LeO.ite ?_ ?_)
      | (with_reducible refine LeO.bind ?_ (fun _ => ?_))
      | exact ih0 _ _
      | exact LeO.none _
      | refine LeO.ite ?_ ?_
      | refine LeO.bind ?_ (fun _ => ?_)
set_option maxHeartbeats 8000000 in
set_option maxRecDepth 100000 in
theorem tilefarmref7_AreWeights.calls (k : Nat) (A0 : Option Addr) (c0 : Nat) (l0 : List Int) (r : Bool) (w : World) (hr0 : Kd.C (Kd.int .i64) w A0 l0.length l0) (hc0 : l0.length ≤ c0) (h : tilefarmref7_AreWeights.f k l0 = some r) :
    Calls Try.prog 33 #[.slice A0 l0.length c0] w fun e w' => e = .returned (.bool r) ∧ Drawn0 w w' := by
  have HR0 := Aside0.mk hr0
  have HC0 := Aside0.mk hc0
  clear hr0 hc0
  have H : (tilefarmref7_AreWeights.l0 k l0 0) = some r := h
  clear h
  have H' := Aside0.mk H
  clear H
  go_enter Try.func33, Try.ntmps33
  go_wp2
  go_loopg [3] k (fun kq v3 w' => ∃ (x3_1 : Int), v3 = .int .i64 x3_1 ∧ Aside0 (tilefarmref7_AreWeights.l0 kq l0 x3_1 = some r) ∧ Aside0 (kq ≤ k) ∧ Drawn0 w w')
  case atStart => exact ⟨(0), q109_, H', ⟨Nat.le_refl _⟩, q106_⟩
  case round =>
    clear H'
    obtain ⟨x3_1, rfl, HA, HK1, ⟨m1, rfl⟩⟩ := hrel
    cases gk with
    | zero => exact absurd HA.out (by simp [tilefarmref7_AreWeights.l0])
    | succ k1 =>
      have H := HA.out
      clear HA
      simp only [tilefarmref7_AreWeights.l0] at H
      by_cases c2 : x3_1 < (l0.length : Int)
      · rw [if_pos c2] at H
        have c2b0 : decide (x3_1 < (l0.length : Int)) = true := decide_eq_true c2
        clear c2
        by_cases c3 : 0 ≤ x3_1
        · rw [if_pos c3] at H
          have c3b0 : decide (0 ≤ x3_1) = true := decide_eq_true c3
          clear c3
          replace H := Option.bind_eq_some_iff.mp H
          obtain ⟨t137, A40, H⟩ := H
          replace H : (if t137 = true then (tilefarmref7_AreWeights.l0 k1 l0 (wrap64 (x3_1 + 1))) else (some false)) = some r := H
          have A4 := Aside0.mk A40
          clear A40
          by_cases c5 : t137 = true
          · subst c5
            have H1 : (tilefarmref7_AreWeights.l0 k1 l0 (wrap64 (x3_1 + 1))) = some r := by rw [if_pos rfl] at H; exact H
            clear H
            have H := H1
            clear H1
            have H' := Aside0.mk H
            clear H
            have p136 : 0 ≤ (x3_1 : Int) := of_decide_eq_true q108_
            have q136 : x3_1 < (l0.length : Int) := of_decide_eq_true q108_
            obtain ⟨ad136, e136, hx136_0⟩ := Kd.at_int HR0.out x3_1 p136 q136
            cases e136
            replace p136 := eq_true p136
            replace q136 := eq_true q136
            go_wp2_with (first | ((with_reducible refine gate_callee (f := 62) rfl ?_); refine goesL_ (some 14) rfl rfl Try.func62 (by kernel_rfl) rfl #[.int .i64 (rd l0 x3_1)] rfl q60_ ?_; (with_reducible refine (tilefarmref7_IsWeight.calls (rd l0 x3_1) true _ A4.out).mono ?_); rintro e w' ⟨rfl, ⟨nd, rfl⟩⟩; refine ⟨_, rfl, ?_⟩))
            go_roundg k1
            case measure => have := HK1.out; omega
            case rel => exact ⟨(wrap64 (x3_1 + 1)), q109_, H', ⟨by have := HK1.out; omega⟩, q106_⟩
          · replace c5 := Bool.eq_false_iff.mpr c5
            subst c5
            have H1 : (some false) = some r := by rw [if_neg (show ¬ (false = true) by decide)] at H; exact H
            clear H
            have H := H1
            clear H1
            obtain rfl := Option.some.inj H
            have p136 : 0 ≤ (x3_1 : Int) := of_decide_eq_true q108_
            have q136 : x3_1 < (l0.length : Int) := of_decide_eq_true q108_
            obtain ⟨ad136, e136, hx136_0⟩ := Kd.at_int HR0.out x3_1 p136 q136
            cases e136
            replace p136 := eq_true p136
            replace q136 := eq_true q136
            go_wp2_with (first | ((with_reducible refine gate_callee (f := 62) rfl ?_); refine goesL_ (some 14) rfl rfl Try.func62 (by kernel_rfl) rfl #[.int .i64 (rd l0 x3_1)] rfl q60_ ?_; (with_reducible refine (tilefarmref7_IsWeight.calls (rd l0 x3_1) false _ A4.out).mono ?_); rintro e w' ⟨rfl, ⟨nd, rfl⟩⟩; refine ⟨_, rfl, ?_⟩))
            go_ret
            exact ⟨q109_, q106_⟩
        · rw [if_neg c3] at H
          exact absurd H (by simp)
      · rw [if_neg c2] at H
        have c2b0 : decide (x3_1 < (l0.length : Int)) = false := decide_eq_false c2
        clear c2
        obtain rfl := Option.some.inj H
        go_wp2
        go_ret
        exact ⟨q109_, q106_⟩


def tilefarmref7_IsShift.f (a0 : Int) : Option (Bool) := if a0 ≥ 0 then (some (decide (a0 ≤ 24))) else (some false)
set_option maxHeartbeats 8000000 in
set_option maxRecDepth 100000 in
theorem tilefarmref7_IsShift.calls (a0 : Int) (r : Bool) (w : World) (h : tilefarmref7_IsShift.f a0 = some r) :
    Calls Try.prog 34 #[.int .i64 a0] w fun e w' => e = .returned (.bool r) ∧ Drawn0 w w' := by
  have H : (if a0 ≥ 0 then (some (decide (a0 ≤ 24))) else (some false)) = some r := h
  clear h
  by_cases c2 : a0 ≥ 0
  · rw [if_pos c2] at H
    have c2b0 : decide (0 ≤ a0) = true := decide_eq_true c2
    clear c2
    obtain rfl := Option.some.inj H
    go_enter Try.func34, Try.ntmps34
    go_wp2
    go_ret
    exact ⟨q109_, q106_⟩
  · rw [if_neg c2] at H
    have c2b0 : decide (0 ≤ a0) = false := decide_eq_false c2
    clear c2
    obtain rfl := Option.some.inj H
    go_enter Try.func34, Try.ntmps34
    go_wp2
    go_ret
    exact ⟨q109_, q106_⟩


def tilefarmref9_Value.f (a0 : Int) : Option (Bool) := if a0 ≥ 1 then (some (decide (a0 ≤ 4294967296))) else (some false)
set_option maxHeartbeats 8000000 in
set_option maxRecDepth 100000 in
theorem tilefarmref9_Value.calls (a0 : Int) (r : Bool) (w : World) (h : tilefarmref9_Value.f a0 = some r) :
    Calls Try.prog 35 #[.int .i64 a0] w fun e w' => e = .returned (.bool r) ∧ Drawn0 w w' := by
  have H : (if a0 ≥ 1 then (some (decide (a0 ≤ 4294967296))) else (some false)) = some r := h
  clear h
  by_cases c2 : a0 ≥ 1
  · rw [if_pos c2] at H
    have c2b0 : decide (1 ≤ a0) = true := decide_eq_true c2
    clear c2
    obtain rfl := Option.some.inj H
    go_enter Try.func35, Try.ntmps35
    go_wp2
    go_ret
    exact ⟨q109_, q106_⟩
  · rw [if_neg c2] at H
    have c2b0 : decide (1 ≤ a0) = false := decide_eq_false c2
    clear c2
    obtain rfl := Option.some.inj H
    go_enter Try.func35, Try.ntmps35
    go_wp2
    go_ret
    exact ⟨q109_, q106_⟩


def tilefarmref7_Weights.j0 : Nat → List Int → Bool → Option (Int)
  | 0, _, _ => none
  | k + 1, x0, x10 => if x10 = true then (some 9) else ((tilefarmref7_AreWeights.f k x0).bind fun t138 => (if t138 = true then (some 0) else (some 10)))
def tilefarmref7_Weights.f (k : Nat) (l0 : List Int) : Option (Int) := if (l0.length : Int) = 0 then (tilefarmref7_Weights.j0 k l0 true) else (tilefarmref7_Weights.j0 k l0 (decide ((l0.length : Int) > 81)))
theorem tilefarmref7_Weights.mono_l : ∀ k, (∀ y0 y1, LeO (tilefarmref7_Weights.j0 k y0 y1) (tilefarmref7_Weights.j0 (k + 1) y0 y1))
  | 0 => fun _ _ r h => by simp [tilefarmref7_Weights.j0] at h
  | k + 1 => by
    have ih0 := tilefarmref7_Weights.mono_l k
    · intro y0 y1
      unfold tilefarmref7_Weights.j0
      repeat' first
      | (with_reducible exact ih0 _ _)
      | (with_reducible exact tilefarmref7_AreWeights.mono _ _)
      | (with_reducible exact LeO.refl _)
      | (with_reducible exact LeO.none _)
      | (with_reducible refine LeO.ite ?_ ?_)
      | (with_reducible refine LeO.bind ?_ (fun _ => ?_))
      | exact ih0 _ _
      | exact tilefarmref7_AreWeights.mono _ _
      | exact LeO.none _
      | refine LeO.ite ?_ ?_
      | refine LeO.bind ?_ (fun _ => ?_)
theorem tilefarmref7_Weights.mono : ∀ a0 k, LeO (tilefarmref7_Weights.f k a0) (tilefarmref7_Weights.f (k + 1) a0) := by
  intro a0 k
  have ih0 := tilefarmref7_Weights.mono_l k
  unfold tilefarmref7_Weights.f
  repeat' first
      | (with_reducible exact ih0 _ _)
      | (with_reducible exact tilefarmref7_AreWeights.mono _ _)
      | (with_reducible exact LeO.refl _)
      | (with_reducible exact LeO.none _)
      | (with_reducible refine LeO.ite ?_ ?_)
      | (with_reducible refine LeO.bind ?_ (fun _ => ?_))
      | exact ih0 _ _
      | exact tilefarmref7_AreWeights.mono _ _
      | exact LeO.none _
      | refine LeO.ite ?_ ?_
      | refine LeO.bind ?_ (fun _ => ?_)
set_option maxHeartbeats 8000000 in
set_option maxRecDepth 100000 in
theorem tilefarmref7_Weights.calls (k : Nat) (A0 : Option Addr) (c0 : Nat) (l0 : List Int) (r : Int) (w : World) (hr0 : Kd.C (Kd.int .i64) w A0 l0.length l0) (hc0 : l0.length ≤ c0) (h : tilefarmref7_Weights.f k l0 = some r) :
    Calls Try.prog 63 #[.slice A0 l0.length c0] w fun e w' => e = .returned (.int .i64 r) ∧ Drawn0 w w' := by
  have HR0 := Aside0.mk hr0
  have HC0 := Aside0.mk hc0
  clear hr0 hc0
  have H : (if (l0.length : Int) = 0 then (tilefarmref7_Weights.j0 k l0 true) else (tilefarmref7_Weights.j0 k l0 (decide ((l0.length : Int) > 81)))) = some r := h
  clear h
  have HC2 := Aside0.mk H
  clear H
  go_enter Try.func63, Try.ntmps63
  go_upto_region 1 with (fail)
  go_cut [10] (fun v10 wc => ∃ (kq : Nat) (x10_1 : Bool), v10 = .bool x10_1 ∧ Aside0 (tilefarmref7_Weights.j0 kq l0 x10_1 = some r) ∧ Aside0 (kq ≤ k) ∧ Drawn0 w wc)
  case first =>
    have H := HC2.out
    clear HC2
    by_cases c3 : (l0.length : Int) = 0
    · rw [if_pos c3] at H
      have c3b0 : ((l0.length : Int) == 0) = true := beq_iff_eq.mpr c3
      have c3b1 : ((l0.length : Int) != 0) = false := bne_eq_false_iff_eq.mpr c3
      clear c3
      (first | rw [c3b0] | (simp only [i64_w, i32_w]; rw [c3b0]) | skip)
      have H' := Aside0.mk H
      clear H
      go_wp2
      go_meet
      case rel => exact ⟨_, (true), q109_, H', ⟨by first | omega | exact Nat.le_refl _⟩, q106_⟩
    · rw [if_neg c3] at H
      have c3b0 : ((l0.length : Int) == 0) = false := beq_eq_false_iff_ne.mpr c3
      have c3b1 : ((l0.length : Int) != 0) = true := bne_iff_ne.mpr c3
      have c3b2 : ¬ (l0 = []) := fun h_ => c3 (by rw [h_]; rfl)
      (first | rw [c3b0] | (simp only [i64_w, i32_w]; rw [c3b0]) | skip)
      have H' := Aside0.mk H
      clear H
      go_wp2
      go_meet
      case rel => exact ⟨_, (decide ((l0.length : Int) > 81)), q109_, H', ⟨by first | omega | exact Nat.le_refl _⟩, q106_⟩
  case rest =>
    clear HC2
    try clear p2
    try clear c3
    try clear c3b0
    try clear c3b1
    try clear c3b2
    obtain ⟨kq, x10_1, rfl, HA, HJ1, ⟨mc1, rfl⟩⟩ := hcut
    cases kq with
    | zero => exact absurd HA.out (by simp [tilefarmref7_Weights.j0])
    | succ kj1 =>
      have H := HA.out
      clear HA
      simp only [tilefarmref7_Weights.j0] at H
      by_cases c4 : x10_1 = true
      · subst c4
        have H1 : (some 9) = some r := by rw [if_pos rfl] at H; exact H
        clear H
        have H := H1
        clear H1
        obtain rfl := Option.some.inj H
        go_wp2
        go_ret
        exact ⟨q109_, q106_⟩
      · replace c4 := Bool.eq_false_iff.mpr c4
        subst c4
        have H1 : ((tilefarmref7_AreWeights.f kj1 l0).bind fun t138 => (if t138 = true then (some 0) else (some 10))) = some r := by rw [if_neg (show ¬ (false = true) by decide)] at H; exact H
        clear H
        have H := H1
        clear H1
        replace H := Option.bind_eq_some_iff.mp H
        obtain ⟨t138, A50, H⟩ := H
        replace H : (if t138 = true then (some 0) else (some 10)) = some r := H
        have A5 := Aside0.mk A50
        clear A50
        by_cases c6 : t138 = true
        · subst c6
          have H1 : (some 0) = some r := by rw [if_pos rfl] at H; exact H
          clear H
          have H := H1
          clear H1
          obtain rfl := Option.some.inj H
          go_wp2_with (first | ((with_reducible refine gate_callee (f := 33) rfl ?_); refine goesL_ (some 12) rfl rfl Try.func33 (by kernel_rfl) rfl #[.slice A0 l0.length c0] rfl q60_ ?_; (with_reducible refine (tilefarmref7_AreWeights.calls kj1 _ _ l0 true _ ?side1 ?side2 A5.out).mono ?_); (case side1 => repeat (first | exact HR0.out | (with_reducible refine Kd.C_alloc ?_ _) | (with_reducible refine Kd.C_drewN ?_ _) | (with_reducible refine Kd.C_drew ?_))); (case side2 => exact HC0.out); rintro e w' ⟨rfl, ⟨nd, rfl⟩⟩; refine ⟨_, rfl, ?_⟩))
          go_ret
          exact ⟨q109_, q106_⟩
        · replace c6 := Bool.eq_false_iff.mpr c6
          subst c6
          have H1 : (some 10) = some r := by rw [if_neg (show ¬ (false = true) by decide)] at H; exact H
          clear H
          have H := H1
          clear H1
          obtain rfl := Option.some.inj H
          go_wp2_with (first | ((with_reducible refine gate_callee (f := 33) rfl ?_); refine goesL_ (some 12) rfl rfl Try.func33 (by kernel_rfl) rfl #[.slice A0 l0.length c0] rfl q60_ ?_; (with_reducible refine (tilefarmref7_AreWeights.calls kj1 _ _ l0 false _ ?side1 ?side2 A5.out).mono ?_); (case side1 => repeat (first | exact HR0.out | (with_reducible refine Kd.C_alloc ?_ _) | (with_reducible refine Kd.C_drewN ?_ _) | (with_reducible refine Kd.C_drew ?_))); (case side2 => exact HC0.out); rintro e w' ⟨rfl, ⟨nd, rfl⟩⟩; refine ⟨_, rfl, ?_⟩))
          go_ret
          exact ⟨q109_, q106_⟩


def tilefarmref7_Acc.f (a0 : Int) : Option (Bool) := if a0 ≥ (-17592186044416) then (some (decide (a0 ≤ 17592186044416))) else (some false)
set_option maxHeartbeats 8000000 in
set_option maxRecDepth 100000 in
theorem tilefarmref7_Acc.calls (a0 : Int) (r : Bool) (w : World) (h : tilefarmref7_Acc.f a0 = some r) :
    Calls Try.prog 64 #[.int .i64 a0] w fun e w' => e = .returned (.bool r) ∧ Drawn0 w w' := by
  have H : (if a0 ≥ (-17592186044416) then (some (decide (a0 ≤ 17592186044416))) else (some false)) = some r := h
  clear h
  by_cases c2 : a0 ≥ (-17592186044416)
  · rw [if_pos c2] at H
    have c2b0 : decide ((-17592186044416) ≤ a0) = true := decide_eq_true c2
    clear c2
    obtain rfl := Option.some.inj H
    go_enter Try.func64, Try.ntmps64
    go_wp2
    go_ret
    exact ⟨q109_, q106_⟩
  · rw [if_neg c2] at H
    have c2b0 : decide ((-17592186044416) ≤ a0) = false := decide_eq_false c2
    clear c2
    obtain rfl := Option.some.inj H
    go_enter Try.func64, Try.ntmps64
    go_wp2
    go_ret
    exact ⟨q109_, q106_⟩


mutual
def tilefarmref7_Bounds.j0 : Nat → List Int → Int → Int → Bool → Option (Int × Int × Bool)
  | 0, _, _, _, _ => none
  | k + 1, x0, x1, x2, x29 => if x29 = true then (some (0, 0, false)) else (tilefarmref7_Bounds.l0 k x0 x1 x2 0 0 0)
def tilefarmref7_Bounds.l0 : Nat → List Int → Int → Int → Int → Int → Int → Option (Int × Int × Bool)
  | 0, _, _, _, _, _, _ => none
  | k + 1, x0, x1, x2, x9, x10, x11 => if x11 < (x0.length : Int) then (if 0 ≤ x11 then (tilefarmref7_Bounds.l0 k x0 x1 x2 (wrap64 (x9 + (mn (wrap64 ((rd x0 x11) * x1)) (wrap64 ((rd x0 x11) * x2))))) (wrap64 (x10 + (mx (wrap64 ((rd x0 x11) * x1)) (wrap64 ((rd x0 x11) * x2))))) (wrap64 (x11 + 1))) else (none)) else ((tilefarmref7_Acc.f x9).bind fun t142 => (if t142 = true then ((tilefarmref7_Acc.f x10).bind fun t143 => (if t143 = true then (some (x9, x10, true)) else (some (0, 0, false)))) else (some (0, 0, false))))
end
def tilefarmref7_Bounds.f (k : Nat) (l0 : List Int) (a1 : Int) (a2 : Int) : Option (Int × Int × Bool) := (tilefarmref7_Weights.f k l0).bind fun t139 => (if t139 = 0 then (if a1 > a2 then (tilefarmref7_Bounds.j0 k l0 a1 a2 true) else (if a1 < (-68719476736) then (tilefarmref7_Bounds.j0 k l0 a1 a2 true) else (tilefarmref7_Bounds.j0 k l0 a1 a2 (decide (a2 > 68719476736))))) else (tilefarmref7_Bounds.j0 k l0 a1 a2 true))
theorem tilefarmref7_Bounds.mono_l : ∀ k, (∀ y0 y1 y2 y3, LeO (tilefarmref7_Bounds.j0 k y0 y1 y2 y3) (tilefarmref7_Bounds.j0 (k + 1) y0 y1 y2 y3)) ∧ (∀ y0 y1 y2 y3 y4 y5, LeO (tilefarmref7_Bounds.l0 k y0 y1 y2 y3 y4 y5) (tilefarmref7_Bounds.l0 (k + 1) y0 y1 y2 y3 y4 y5))
  | 0 => ⟨fun _ _ _ _ r h => by simp [tilefarmref7_Bounds.j0] at h, fun _ _ _ _ _ _ r h => by simp [tilefarmref7_Bounds.l0] at h⟩
  | k + 1 => by
    obtain ⟨ih0, ih1⟩ := tilefarmref7_Bounds.mono_l k
    refine ⟨?_, ?_⟩
    · intro y0 y1 y2 y3
      unfold tilefarmref7_Bounds.j0
      repeat' first
      | (with_reducible exact ih0 _ _ _ _)
      | (with_reducible exact ih1 _ _ _ _ _ _)
      | (with_reducible exact tilefarmref7_Weights.mono _ _)
      | (with_reducible exact LeO.refl _)
      | (with_reducible exact LeO.none _)
      | (with_reducible refine LeO.ite ?_ ?_)
      | (with_reducible refine LeO.bind ?_ (fun _ => ?_))
      | exact ih0 _ _ _ _
      | exact ih1 _ _ _ _ _ _
      | exact tilefarmref7_Weights.mono _ _
      | exact LeO.none _
      | refine LeO.ite ?_ ?_
      | refine LeO.bind ?_ (fun _ => ?_)
    · intro y0 y1 y2 y3 y4 y5
      unfold tilefarmref7_Bounds.l0
      repeat' first
      | (with_reducible exact ih0 _ _ _ _)
      | (with_reducible exact ih1 _ _ _ _ _ _)
      | (with_reducible exact tilefarmref7_Weights.mono _ _)
      | (with_reducible exact LeO.refl _)
      | (with_reducible exact LeO.none _)
      | (with_reducible refine LeO.ite ?_ ?_)
      | (with_reducible refine LeO.bind ?_ (fun _ => ?_))
      | exact ih0 _ _ _ _
      | exact ih1 _ _ _ _ _ _
      | exact tilefarmref7_Weights.mono _ _
      | exact LeO.none _
      | refine LeO.ite ?_ ?_
      | refine LeO.bind ?_ (fun _ => ?_)
theorem tilefarmref7_Bounds.mono : ∀ a0 a1 a2 k, LeO (tilefarmref7_Bounds.f k a0 a1 a2) (tilefarmref7_Bounds.f (k + 1) a0 a1 a2) := by
  intro a0 a1 a2 k
  obtain ⟨ih0, ih1⟩ := tilefarmref7_Bounds.mono_l k
  unfold tilefarmref7_Bounds.f
  repeat' first
      | (with_reducible exact ih0 _ _ _ _)
      | (with_reducible exact ih1 _ _ _ _ _ _)
      | (with_reducible exact tilefarmref7_Weights.mono _ _)
      | (with_reducible exact LeO.refl _)
      | (with_reducible exact LeO.none _)
      | (with_reducible refine LeO.ite ?_ ?_)
      | (with_reducible refine LeO.bind ?_ (fun _ => ?_))
      | exact ih0 _ _ _ _
      | exact ih1 _ _ _ _ _ _
      | exact tilefarmref7_Weights.mono _ _
      | exact LeO.none _
      | refine LeO.ite ?_ ?_
      | refine LeO.bind ?_ (fun _ => ?_)
set_option maxHeartbeats 8000000 in
set_option maxRecDepth 100000 in
theorem tilefarmref7_Bounds.calls (k : Nat) (A0 : Option Addr) (c0 : Nat) (l0 : List Int) (a1 : Int) (a2 : Int) (r1 : Int) (r2 : Int) (r3 : Bool) (w : World) (hr0 : Kd.C (Kd.int .i64) w A0 l0.length l0) (hc0 : l0.length ≤ c0) (h : tilefarmref7_Bounds.f k l0 a1 a2 = some (r1, r2, r3)) :
    Calls Try.prog 36 #[.slice A0 l0.length c0, .int .i64 a1, .int .i64 a2] w fun e w' => e = .returned (.tuple #[.int .i64 r1, .int .i64 r2, .bool r3]) ∧ Below w.heap.size w w' := by
  have HR0 := Aside0.mk hr0
  have HC0 := Aside0.mk hc0
  clear hr0 hc0
  have HB := Aside0.mk (Below.refl w.heap.size w)
  have H : ((tilefarmref7_Weights.f k l0).bind fun t139 => (if t139 = 0 then (if a1 > a2 then (tilefarmref7_Bounds.j0 k l0 a1 a2 true) else (if a1 < (-68719476736) then (tilefarmref7_Bounds.j0 k l0 a1 a2 true) else (tilefarmref7_Bounds.j0 k l0 a1 a2 (decide (a2 > 68719476736))))) else (tilefarmref7_Bounds.j0 k l0 a1 a2 true))) = some (r1, r2, r3) := h
  clear h
  have HC4 := Aside0.mk H
  clear H
  go_enter Try.func36, Try.ntmps36
  go_upto_region 1 with (fail)
  repeat (go_quiet (fail); go_upto_region 1 with (fail))
  go_cut [29] (fun v29 wc => ∃ (kq : Nat) (x29_3 : Bool), v29 = .bool x29_3 ∧ Aside0 (tilefarmref7_Bounds.j0 kq l0 a1 a2 x29_3 = some (r1, r2, r3)) ∧ Aside0 (kq ≤ k) ∧ Aside0 (Below w.heap.size w wc))
  case first =>
    have H := HC4.out
    clear HC4
    replace H := Option.bind_eq_some_iff.mp H
    obtain ⟨t139, A50, H⟩ := H
    replace H : (if t139 = 0 then (if a1 > a2 then (tilefarmref7_Bounds.j0 k l0 a1 a2 true) else (if a1 < (-68719476736) then (tilefarmref7_Bounds.j0 k l0 a1 a2 true) else (tilefarmref7_Bounds.j0 k l0 a1 a2 (decide (a2 > 68719476736))))) else (tilefarmref7_Bounds.j0 k l0 a1 a2 true)) = some (r1, r2, r3) := H
    have A5 := Aside0.mk A50
    clear A50
    by_cases c6 : t139 = 0
    · rw [if_pos c6] at H
      have c6b0 : (t139 == 0) = true := beq_iff_eq.mpr c6
      have c6b1 : (t139 != 0) = false := bne_eq_false_iff_eq.mpr c6
      clear c6
      (first | rw [c6b0] | (simp only [i64_w, i32_w]; rw [c6b0]) | skip)
      by_cases c7 : a1 > a2
      · rw [if_pos c7] at H
        have c7b0 : decide (a2 < a1) = true := decide_eq_true c7
        clear c7
        have H' := Aside0.mk H
        clear H
        go_wp2_with (first | (go_at_call 63; (with_reducible refine (tilefarmref7_Weights.calls k _ _ l0 t139 _ ?side1 ?side2 A5.out).mono ?_); (case side1 => repeat (first | exact (Kd.C_below HR0.out HB.out) | (with_reducible refine Kd.C_alloc ?_ _) | (with_reducible refine Kd.C_drewN ?_ _) | (with_reducible refine Kd.C_drew ?_))); (case side2 => exact HC0.out); rintro e w' ⟨rfl, ⟨nd, rfl⟩⟩; (try first | exact ⟨rfl, _, World.drewN_drewN _ _ _⟩ | exact ⟨rfl, _, Eq.trans (World.drewN_drewN _ _ _) (congrArg (World.drewN _) (Nat.add_assoc _ _ _))⟩)))
        repeat (go_quiet (first | (go_at_call 63; (with_reducible refine (tilefarmref7_Weights.calls k _ _ l0 t139 _ ?side1 ?side2 A5.out).mono ?_); (case side1 => repeat (first | exact (Kd.C_below HR0.out HB.out) | (with_reducible refine Kd.C_alloc ?_ _) | (with_reducible refine Kd.C_drewN ?_ _) | (with_reducible refine Kd.C_drew ?_))); (case side2 => exact HC0.out); rintro e w' ⟨rfl, ⟨nd, rfl⟩⟩; (try first | exact ⟨rfl, _, World.drewN_drewN _ _ _⟩ | exact ⟨rfl, _, Eq.trans (World.drewN_drewN _ _ _) (congrArg (World.drewN _) (Nat.add_assoc _ _ _))⟩))); try go_wp2_with (first | (go_at_call 63; (with_reducible refine (tilefarmref7_Weights.calls k _ _ l0 t139 _ ?side1 ?side2 A5.out).mono ?_); (case side1 => repeat (first | exact (Kd.C_below HR0.out HB.out) | (with_reducible refine Kd.C_alloc ?_ _) | (with_reducible refine Kd.C_drewN ?_ _) | (with_reducible refine Kd.C_drew ?_))); (case side2 => exact HC0.out); rintro e w' ⟨rfl, ⟨nd, rfl⟩⟩; (try first | exact ⟨rfl, _, World.drewN_drewN _ _ _⟩ | exact ⟨rfl, _, Eq.trans (World.drewN_drewN _ _ _) (congrArg (World.drewN _) (Nat.add_assoc _ _ _))⟩))))
        go_meet
        case rel => exact ⟨_, (true), q109_, H', ⟨by first | omega | exact Nat.le_refl _⟩, ⟨q62_⟩⟩
      · rw [if_neg c7] at H
        have c7b0 : decide (a2 < a1) = false := decide_eq_false c7
        clear c7
        by_cases c8 : a1 < (-68719476736)
        · rw [if_pos c8] at H
          have c8b0 : decide (a1 < (-68719476736)) = true := decide_eq_true c8
          clear c8
          have H' := Aside0.mk H
          clear H
          go_wp2_with (first | (go_at_call 63; (with_reducible refine (tilefarmref7_Weights.calls k _ _ l0 t139 _ ?side1 ?side2 A5.out).mono ?_); (case side1 => repeat (first | exact (Kd.C_below HR0.out HB.out) | (with_reducible refine Kd.C_alloc ?_ _) | (with_reducible refine Kd.C_drewN ?_ _) | (with_reducible refine Kd.C_drew ?_))); (case side2 => exact HC0.out); rintro e w' ⟨rfl, ⟨nd, rfl⟩⟩; (try first | exact ⟨rfl, _, World.drewN_drewN _ _ _⟩ | exact ⟨rfl, _, Eq.trans (World.drewN_drewN _ _ _) (congrArg (World.drewN _) (Nat.add_assoc _ _ _))⟩)))
          repeat (go_quiet (first | (go_at_call 63; (with_reducible refine (tilefarmref7_Weights.calls k _ _ l0 t139 _ ?side1 ?side2 A5.out).mono ?_); (case side1 => repeat (first | exact (Kd.C_below HR0.out HB.out) | (with_reducible refine Kd.C_alloc ?_ _) | (with_reducible refine Kd.C_drewN ?_ _) | (with_reducible refine Kd.C_drew ?_))); (case side2 => exact HC0.out); rintro e w' ⟨rfl, ⟨nd, rfl⟩⟩; (try first | exact ⟨rfl, _, World.drewN_drewN _ _ _⟩ | exact ⟨rfl, _, Eq.trans (World.drewN_drewN _ _ _) (congrArg (World.drewN _) (Nat.add_assoc _ _ _))⟩))); try go_wp2_with (first | (go_at_call 63; (with_reducible refine (tilefarmref7_Weights.calls k _ _ l0 t139 _ ?side1 ?side2 A5.out).mono ?_); (case side1 => repeat (first | exact (Kd.C_below HR0.out HB.out) | (with_reducible refine Kd.C_alloc ?_ _) | (with_reducible refine Kd.C_drewN ?_ _) | (with_reducible refine Kd.C_drew ?_))); (case side2 => exact HC0.out); rintro e w' ⟨rfl, ⟨nd, rfl⟩⟩; (try first | exact ⟨rfl, _, World.drewN_drewN _ _ _⟩ | exact ⟨rfl, _, Eq.trans (World.drewN_drewN _ _ _) (congrArg (World.drewN _) (Nat.add_assoc _ _ _))⟩))))
          go_meet
          case rel => exact ⟨_, (true), q109_, H', ⟨by first | omega | exact Nat.le_refl _⟩, ⟨q62_⟩⟩
        · rw [if_neg c8] at H
          have c8b0 : decide (a1 < (-68719476736)) = false := decide_eq_false c8
          clear c8
          have H' := Aside0.mk H
          clear H
          go_wp2_with (first | (go_at_call 63; (with_reducible refine (tilefarmref7_Weights.calls k _ _ l0 t139 _ ?side1 ?side2 A5.out).mono ?_); (case side1 => repeat (first | exact (Kd.C_below HR0.out HB.out) | (with_reducible refine Kd.C_alloc ?_ _) | (with_reducible refine Kd.C_drewN ?_ _) | (with_reducible refine Kd.C_drew ?_))); (case side2 => exact HC0.out); rintro e w' ⟨rfl, ⟨nd, rfl⟩⟩; (try first | exact ⟨rfl, _, World.drewN_drewN _ _ _⟩ | exact ⟨rfl, _, Eq.trans (World.drewN_drewN _ _ _) (congrArg (World.drewN _) (Nat.add_assoc _ _ _))⟩)))
          repeat (go_quiet (first | (go_at_call 63; (with_reducible refine (tilefarmref7_Weights.calls k _ _ l0 t139 _ ?side1 ?side2 A5.out).mono ?_); (case side1 => repeat (first | exact (Kd.C_below HR0.out HB.out) | (with_reducible refine Kd.C_alloc ?_ _) | (with_reducible refine Kd.C_drewN ?_ _) | (with_reducible refine Kd.C_drew ?_))); (case side2 => exact HC0.out); rintro e w' ⟨rfl, ⟨nd, rfl⟩⟩; (try first | exact ⟨rfl, _, World.drewN_drewN _ _ _⟩ | exact ⟨rfl, _, Eq.trans (World.drewN_drewN _ _ _) (congrArg (World.drewN _) (Nat.add_assoc _ _ _))⟩))); try go_wp2_with (first | (go_at_call 63; (with_reducible refine (tilefarmref7_Weights.calls k _ _ l0 t139 _ ?side1 ?side2 A5.out).mono ?_); (case side1 => repeat (first | exact (Kd.C_below HR0.out HB.out) | (with_reducible refine Kd.C_alloc ?_ _) | (with_reducible refine Kd.C_drewN ?_ _) | (with_reducible refine Kd.C_drew ?_))); (case side2 => exact HC0.out); rintro e w' ⟨rfl, ⟨nd, rfl⟩⟩; (try first | exact ⟨rfl, _, World.drewN_drewN _ _ _⟩ | exact ⟨rfl, _, Eq.trans (World.drewN_drewN _ _ _) (congrArg (World.drewN _) (Nat.add_assoc _ _ _))⟩))))
          go_meet
          case rel => exact ⟨_, (decide (a2 > 68719476736)), q109_, H', ⟨by first | omega | exact Nat.le_refl _⟩, ⟨q62_⟩⟩
    · rw [if_neg c6] at H
      have c6b0 : (t139 == 0) = false := beq_eq_false_iff_ne.mpr c6
      have c6b1 : (t139 != 0) = true := bne_iff_ne.mpr c6
      (first | rw [c6b0] | (simp only [i64_w, i32_w]; rw [c6b0]) | skip)
      have H' := Aside0.mk H
      clear H
      go_wp2_with (first | (go_at_call 63; (with_reducible refine (tilefarmref7_Weights.calls k _ _ l0 t139 _ ?side1 ?side2 A5.out).mono ?_); (case side1 => repeat (first | exact (Kd.C_below HR0.out HB.out) | (with_reducible refine Kd.C_alloc ?_ _) | (with_reducible refine Kd.C_drewN ?_ _) | (with_reducible refine Kd.C_drew ?_))); (case side2 => exact HC0.out); rintro e w' ⟨rfl, ⟨nd, rfl⟩⟩; (try first | exact ⟨rfl, _, World.drewN_drewN _ _ _⟩ | exact ⟨rfl, _, Eq.trans (World.drewN_drewN _ _ _) (congrArg (World.drewN _) (Nat.add_assoc _ _ _))⟩)))
      repeat (go_quiet (first | (go_at_call 63; (with_reducible refine (tilefarmref7_Weights.calls k _ _ l0 t139 _ ?side1 ?side2 A5.out).mono ?_); (case side1 => repeat (first | exact (Kd.C_below HR0.out HB.out) | (with_reducible refine Kd.C_alloc ?_ _) | (with_reducible refine Kd.C_drewN ?_ _) | (with_reducible refine Kd.C_drew ?_))); (case side2 => exact HC0.out); rintro e w' ⟨rfl, ⟨nd, rfl⟩⟩; (try first | exact ⟨rfl, _, World.drewN_drewN _ _ _⟩ | exact ⟨rfl, _, Eq.trans (World.drewN_drewN _ _ _) (congrArg (World.drewN _) (Nat.add_assoc _ _ _))⟩))); try go_wp2_with (first | (go_at_call 63; (with_reducible refine (tilefarmref7_Weights.calls k _ _ l0 t139 _ ?side1 ?side2 A5.out).mono ?_); (case side1 => repeat (first | exact (Kd.C_below HR0.out HB.out) | (with_reducible refine Kd.C_alloc ?_ _) | (with_reducible refine Kd.C_drewN ?_ _) | (with_reducible refine Kd.C_drew ?_))); (case side2 => exact HC0.out); rintro e w' ⟨rfl, ⟨nd, rfl⟩⟩; (try first | exact ⟨rfl, _, World.drewN_drewN _ _ _⟩ | exact ⟨rfl, _, Eq.trans (World.drewN_drewN _ _ _) (congrArg (World.drewN _) (Nat.add_assoc _ _ _))⟩))))
      go_meet
      case rel => exact ⟨_, (true), q109_, H', ⟨by first | omega | exact Nat.le_refl _⟩, ⟨q62_⟩⟩
  case rest =>
    clear HC4
    try clear p2
    try clear c3
    try clear c6
    try clear c6b0
    try clear c6b1
    try clear c7
    try clear c7b0
    try clear c8
    try clear c8b0
    obtain ⟨kq, x29_3, rfl, HA, HJ3, HB⟩ := hcut
    cases kq with
    | zero => exact absurd HA.out (by simp [tilefarmref7_Bounds.j0])
    | succ kj3 =>
      have H := HA.out
      clear HA
      simp only [tilefarmref7_Bounds.j0] at H
      by_cases c9 : x29_3 = true
      · subst c9
        have H1 : (some (0, 0, false)) = some (r1, r2, r3) := by rw [if_pos rfl] at H; exact H
        clear H
        have H := H1
        clear H1
        simp only [Option.some.injEq, Prod.mk.injEq] at H
        obtain ⟨rfl, rfl, rfl⟩ := H
        go_wp2
        repeat (go_quiet (fail); try go_wp2)
        go_ret3
        exact ⟨q103_, q62_⟩
      · replace c9 := Bool.eq_false_iff.mpr c9
        subst c9
        have H1 : (tilefarmref7_Bounds.l0 kj3 l0 a1 a2 0 0 0) = some (r1, r2, r3) := by rw [if_neg (show ¬ (false = true) by decide)] at H; exact H
        clear H
        have H := H1
        clear H1
        have H' := Aside0.mk H
        clear H
        go_wp2
        repeat (go_quiet (fail); try go_wp2)
        go_loopg [9, 10, 11] kj3 (fun kq v9 v10 v11 w' => ∃ (x9_2 : Int) (x10_2 : Int) (x11_2 : Int), v9 = .int .i64 x9_2 ∧ v10 = .int .i64 x10_2 ∧ v11 = .int .i64 x11_2 ∧ Aside0 (tilefarmref7_Bounds.l0 kq l0 a1 a2 x9_2 x10_2 x11_2 = some (r1, r2, r3)) ∧ Aside0 (kq ≤ kj3) ∧ Aside0 (Below w.heap.size w w'))
        case atStart => exact ⟨(0), (0), (0), q109_, q109_, q109_, H', ⟨Nat.le_refl _⟩, ⟨q62_⟩⟩
        case round =>
          clear H'
          try clear p2
          try clear c3
          try clear c6
          try clear c6b0
          try clear c6b1
          try clear c7
          try clear c7b0
          try clear c8
          try clear c8b0
          try clear c9
          try clear p2
          obtain ⟨x9_2, x10_2, x11_2, rfl, rfl, rfl, HA, HK2, HB⟩ := hrel
          cases gk with
          | zero => exact absurd HA.out (by simp [tilefarmref7_Bounds.l0])
          | succ k2 =>
            have H := HA.out
            clear HA
            simp only [tilefarmref7_Bounds.l0] at H
            by_cases c10 : x11_2 < (l0.length : Int)
            · rw [if_pos c10] at H
              have c10b0 : decide (x11_2 < (l0.length : Int)) = true := decide_eq_true c10
              clear c10
              by_cases c11 : 0 ≤ x11_2
              · rw [if_pos c11] at H
                have c11b0 : decide (0 ≤ x11_2) = true := decide_eq_true c11
                clear c11
                obtain ⟨ji12, hji12⟩ : ∃ j_ : Int, (mn (wrap64 ((rd l0 x11_2) * a1)) (wrap64 ((rd l0 x11_2) * a2))) = j_ := ⟨_, rfl⟩
                replace H : (tilefarmref7_Bounds.l0 k2 l0 a1 a2 (wrap64 (x9_2 + (ji12))) (wrap64 (x10_2 + (mx (wrap64 ((rd l0 x11_2) * a1)) (wrap64 ((rd l0 x11_2) * a2))))) (wrap64 (x11_2 + 1))) = some (r1, r2, r3) := by first | (rw [hji12] at H; exact H) | (simp only [hji12] at H ⊢; exact H)
                have hji12_ : (if (wrap64 ((rd l0 x11_2) * a2)) < (wrap64 ((rd l0 x11_2) * a1)) then (wrap64 ((rd l0 x11_2) * a2)) else (wrap64 ((rd l0 x11_2) * a1))) = ji12 := hji12
                obtain ⟨ji13, hji13⟩ : ∃ j_ : Int, (mx (wrap64 ((rd l0 x11_2) * a1)) (wrap64 ((rd l0 x11_2) * a2))) = j_ := ⟨_, rfl⟩
                replace H : (tilefarmref7_Bounds.l0 k2 l0 a1 a2 (wrap64 (x9_2 + (ji12))) (wrap64 (x10_2 + (ji13))) (wrap64 (x11_2 + 1))) = some (r1, r2, r3) := by first | (rw [hji13] at H; exact H) | (simp only [hji13] at H ⊢; exact H)
                have hji13_ : (if (wrap64 ((rd l0 x11_2) * a1)) < (wrap64 ((rd l0 x11_2) * a2)) then (wrap64 ((rd l0 x11_2) * a2)) else (wrap64 ((rd l0 x11_2) * a1))) = ji13 := hji13
                have H' := Aside0.mk H
                clear H
                have p140 : 0 ≤ (x11_2 : Int) := of_decide_eq_true q108_
                have q140 : x11_2 < (l0.length : Int) := of_decide_eq_true q108_
                obtain ⟨ad140, e140, hx140_0⟩ := Kd.at_int HR0.out x11_2 p140 q140
                cases e140
                replace hx140_0 := (HB.out.cell (World.block_lt_of_cell? w _ hx140_0)).trans hx140_0
                replace p140 := eq_true p140
                replace q140 := eq_true q140
                have p141 : 0 ≤ (x11_2 : Int) := of_decide_eq_true q108_
                have q141 : x11_2 < (l0.length : Int) := of_decide_eq_true q108_
                obtain ⟨ad141, e141, hx141_0⟩ := Kd.at_int HR0.out x11_2 p141 q141
                obtain rfl : ad140 = ad141 := (by injection e141)
                replace hx141_0 := (HB.out.cell (World.block_lt_of_cell? w _ hx141_0)).trans hx141_0
                replace p141 := eq_true p141
                replace q141 := eq_true q141
                go_wp2
                repeat (go_quiet (fail); try go_wp2)
                go_roundg k2
                case measure => have := HJ3.out; have := HK2.out; omega
                case rel => exact ⟨(wrap64 (x9_2 + (ji12))), (wrap64 (x10_2 + (ji13))), (wrap64 (x11_2 + 1)), (by first | rfl | (simp; done) | (simp only [← hji12] <;> (first | rfl | simp)) | (simp [*]; done)), (by first | rfl | (simp; done) | (simp only [← hji13] <;> (first | rfl | simp)) | (simp [*]; done)), q109_, (by first | exact H' | ((try (rw [hji12])); (try (rw [hji13])); exact H')), ⟨by have := HJ3.out; have := HK2.out; omega⟩, ⟨q62_⟩⟩
              · rw [if_neg c11] at H
                exact absurd H (by simp)
            · rw [if_neg c10] at H
              have c10b0 : decide (x11_2 < (l0.length : Int)) = false := decide_eq_false c10
              clear c10
              replace H := Option.bind_eq_some_iff.mp H
              obtain ⟨t142, A140, H⟩ := H
              replace H : (if t142 = true then ((tilefarmref7_Acc.f x10_2).bind fun t143 => (if t143 = true then (some (x9_2, x10_2, true)) else (some (0, 0, false)))) else (some (0, 0, false))) = some (r1, r2, r3) := H
              have A14 := Aside0.mk A140
              clear A140
              by_cases c15 : t142 = true
              · subst c15
                have H1 : ((tilefarmref7_Acc.f x10_2).bind fun t143 => (if t143 = true then (some (x9_2, x10_2, true)) else (some (0, 0, false)))) = some (r1, r2, r3) := by rw [if_pos rfl] at H; exact H
                clear H
                have H := H1
                clear H1
                replace H := Option.bind_eq_some_iff.mp H
                obtain ⟨t143, A160, H⟩ := H
                replace H : (if t143 = true then (some (x9_2, x10_2, true)) else (some (0, 0, false))) = some (r1, r2, r3) := H
                have A16 := Aside0.mk A160
                clear A160
                by_cases c17 : t143 = true
                · subst c17
                  have H1 : (some (x9_2, x10_2, true)) = some (r1, r2, r3) := by rw [if_pos rfl] at H; exact H
                  clear H
                  have H := H1
                  clear H1
                  simp only [Option.some.injEq, Prod.mk.injEq] at H
                  obtain ⟨rfl, rfl, rfl⟩ := H
                  go_wp2_with (first | (go_at_call 64; (with_reducible refine (tilefarmref7_Acc.calls x9_2 true _ A14.out).mono ?_); rintro e w' ⟨rfl, ⟨nd, rfl⟩⟩; (try first | exact ⟨rfl, _, World.drewN_drewN _ _ _⟩ | exact ⟨rfl, _, Eq.trans (World.drewN_drewN _ _ _) (congrArg (World.drewN _) (Nat.add_assoc _ _ _))⟩)) | (go_at_call 64; (with_reducible refine (tilefarmref7_Acc.calls x10_2 true _ A16.out).mono ?_); rintro e w' ⟨rfl, ⟨nd, rfl⟩⟩; (try first | exact ⟨rfl, _, World.drewN_drewN _ _ _⟩ | exact ⟨rfl, _, Eq.trans (World.drewN_drewN _ _ _) (congrArg (World.drewN _) (Nat.add_assoc _ _ _))⟩)))
                  repeat (go_quiet (first | (go_at_call 64; (with_reducible refine (tilefarmref7_Acc.calls x9_2 true _ A14.out).mono ?_); rintro e w' ⟨rfl, ⟨nd, rfl⟩⟩; (try first | exact ⟨rfl, _, World.drewN_drewN _ _ _⟩ | exact ⟨rfl, _, Eq.trans (World.drewN_drewN _ _ _) (congrArg (World.drewN _) (Nat.add_assoc _ _ _))⟩)) | (go_at_call 64; (with_reducible refine (tilefarmref7_Acc.calls x10_2 true _ A16.out).mono ?_); rintro e w' ⟨rfl, ⟨nd, rfl⟩⟩; (try first | exact ⟨rfl, _, World.drewN_drewN _ _ _⟩ | exact ⟨rfl, _, Eq.trans (World.drewN_drewN _ _ _) (congrArg (World.drewN _) (Nat.add_assoc _ _ _))⟩))); try go_wp2_with (first | (go_at_call 64; (with_reducible refine (tilefarmref7_Acc.calls x9_2 true _ A14.out).mono ?_); rintro e w' ⟨rfl, ⟨nd, rfl⟩⟩; (try first | exact ⟨rfl, _, World.drewN_drewN _ _ _⟩ | exact ⟨rfl, _, Eq.trans (World.drewN_drewN _ _ _) (congrArg (World.drewN _) (Nat.add_assoc _ _ _))⟩)) | (go_at_call 64; (with_reducible refine (tilefarmref7_Acc.calls x10_2 true _ A16.out).mono ?_); rintro e w' ⟨rfl, ⟨nd, rfl⟩⟩; (try first | exact ⟨rfl, _, World.drewN_drewN _ _ _⟩ | exact ⟨rfl, _, Eq.trans (World.drewN_drewN _ _ _) (congrArg (World.drewN _) (Nat.add_assoc _ _ _))⟩))))
                  go_ret3
                  exact ⟨q103_, q62_⟩
                · replace c17 := Bool.eq_false_iff.mpr c17
                  subst c17
                  have H1 : (some (0, 0, false)) = some (r1, r2, r3) := by rw [if_neg (show ¬ (false = true) by decide)] at H; exact H
                  clear H
                  have H := H1
                  clear H1
                  simp only [Option.some.injEq, Prod.mk.injEq] at H
                  obtain ⟨rfl, rfl, rfl⟩ := H
                  go_wp2_with (first | (go_at_call 64; (with_reducible refine (tilefarmref7_Acc.calls x9_2 true _ A14.out).mono ?_); rintro e w' ⟨rfl, ⟨nd, rfl⟩⟩; (try first | exact ⟨rfl, _, World.drewN_drewN _ _ _⟩ | exact ⟨rfl, _, Eq.trans (World.drewN_drewN _ _ _) (congrArg (World.drewN _) (Nat.add_assoc _ _ _))⟩)) | (go_at_call 64; (with_reducible refine (tilefarmref7_Acc.calls x10_2 false _ A16.out).mono ?_); rintro e w' ⟨rfl, ⟨nd, rfl⟩⟩; (try first | exact ⟨rfl, _, World.drewN_drewN _ _ _⟩ | exact ⟨rfl, _, Eq.trans (World.drewN_drewN _ _ _) (congrArg (World.drewN _) (Nat.add_assoc _ _ _))⟩)))
                  repeat (go_quiet (first | (go_at_call 64; (with_reducible refine (tilefarmref7_Acc.calls x9_2 true _ A14.out).mono ?_); rintro e w' ⟨rfl, ⟨nd, rfl⟩⟩; (try first | exact ⟨rfl, _, World.drewN_drewN _ _ _⟩ | exact ⟨rfl, _, Eq.trans (World.drewN_drewN _ _ _) (congrArg (World.drewN _) (Nat.add_assoc _ _ _))⟩)) | (go_at_call 64; (with_reducible refine (tilefarmref7_Acc.calls x10_2 false _ A16.out).mono ?_); rintro e w' ⟨rfl, ⟨nd, rfl⟩⟩; (try first | exact ⟨rfl, _, World.drewN_drewN _ _ _⟩ | exact ⟨rfl, _, Eq.trans (World.drewN_drewN _ _ _) (congrArg (World.drewN _) (Nat.add_assoc _ _ _))⟩))); try go_wp2_with (first | (go_at_call 64; (with_reducible refine (tilefarmref7_Acc.calls x9_2 true _ A14.out).mono ?_); rintro e w' ⟨rfl, ⟨nd, rfl⟩⟩; (try first | exact ⟨rfl, _, World.drewN_drewN _ _ _⟩ | exact ⟨rfl, _, Eq.trans (World.drewN_drewN _ _ _) (congrArg (World.drewN _) (Nat.add_assoc _ _ _))⟩)) | (go_at_call 64; (with_reducible refine (tilefarmref7_Acc.calls x10_2 false _ A16.out).mono ?_); rintro e w' ⟨rfl, ⟨nd, rfl⟩⟩; (try first | exact ⟨rfl, _, World.drewN_drewN _ _ _⟩ | exact ⟨rfl, _, Eq.trans (World.drewN_drewN _ _ _) (congrArg (World.drewN _) (Nat.add_assoc _ _ _))⟩))))
                  go_ret3
                  exact ⟨q103_, q62_⟩
              · replace c15 := Bool.eq_false_iff.mpr c15
                subst c15
                have H1 : (some (0, 0, false)) = some (r1, r2, r3) := by rw [if_neg (show ¬ (false = true) by decide)] at H; exact H
                clear H
                have H := H1
                clear H1
                simp only [Option.some.injEq, Prod.mk.injEq] at H
                obtain ⟨rfl, rfl, rfl⟩ := H
                go_wp2_with (first | (go_at_call 64; (with_reducible refine (tilefarmref7_Acc.calls x9_2 false _ A14.out).mono ?_); rintro e w' ⟨rfl, ⟨nd, rfl⟩⟩; (try first | exact ⟨rfl, _, World.drewN_drewN _ _ _⟩ | exact ⟨rfl, _, Eq.trans (World.drewN_drewN _ _ _) (congrArg (World.drewN _) (Nat.add_assoc _ _ _))⟩)))
                repeat (go_quiet (first | (go_at_call 64; (with_reducible refine (tilefarmref7_Acc.calls x9_2 false _ A14.out).mono ?_); rintro e w' ⟨rfl, ⟨nd, rfl⟩⟩; (try first | exact ⟨rfl, _, World.drewN_drewN _ _ _⟩ | exact ⟨rfl, _, Eq.trans (World.drewN_drewN _ _ _) (congrArg (World.drewN _) (Nat.add_assoc _ _ _))⟩))); try go_wp2_with (first | (go_at_call 64; (with_reducible refine (tilefarmref7_Acc.calls x9_2 false _ A14.out).mono ?_); rintro e w' ⟨rfl, ⟨nd, rfl⟩⟩; (try first | exact ⟨rfl, _, World.drewN_drewN _ _ _⟩ | exact ⟨rfl, _, Eq.trans (World.drewN_drewN _ _ _) (congrArg (World.drewN _) (Nat.add_assoc _ _ _))⟩))))
                go_ret3
                exact ⟨q103_, q62_⟩


def tilefarmref7_Shift.j0 : Nat → Int → Int → Bool → Option (Int)
  | 0, _, _, _ => none
  | k + 1, x0, x1, x15 => if x15 = true then (some 0) else (if x1 = 0 then (some x0) else (if 0 ≤ (IntKind.u64.wrap (wrap64 (x1 - 1))) then (if 0 ≤ (IntKind.u64.wrap (x1)) then (if (shl .i64 1 (IntKind.u64.wrap (x1))) = 0 then (none) else (if (wrap64 ((wrap64 (Int.tdiv (wrap64 (x0 + (shl .i64 1 (IntKind.u64.wrap (wrap64 (x1 - 1)))))) (shl .i64 1 (IntKind.u64.wrap (x1))))) * (shl .i64 1 (IntKind.u64.wrap (x1))))) > (wrap64 (x0 + (shl .i64 1 (IntKind.u64.wrap (wrap64 (x1 - 1)))))) then (some (wrap64 ((wrap64 (Int.tdiv (wrap64 (x0 + (shl .i64 1 (IntKind.u64.wrap (wrap64 (x1 - 1)))))) (shl .i64 1 (IntKind.u64.wrap (x1))))) - 1))) else (some (wrap64 (Int.tdiv (wrap64 (x0 + (shl .i64 1 (IntKind.u64.wrap (wrap64 (x1 - 1)))))) (shl .i64 1 (IntKind.u64.wrap (x1)))))))) else (none)) else (none)))
def tilefarmref7_Shift.f (k : Nat) (a0 : Int) (a1 : Int) : Option (Int) := (tilefarmref7_Acc.f a0).bind fun t144 => (if t144 = true then ((tilefarmref7_IsShift.f a1).bind fun t145 => (tilefarmref7_Shift.j0 k a0 a1 (!t145))) else (tilefarmref7_Shift.j0 k a0 a1 true))
theorem tilefarmref7_Shift.mono_l : ∀ k, (∀ y0 y1 y2, LeO (tilefarmref7_Shift.j0 k y0 y1 y2) (tilefarmref7_Shift.j0 (k + 1) y0 y1 y2))
  | 0 => fun _ _ _ r h => by simp [tilefarmref7_Shift.j0] at h
  | k + 1 => by
    have ih0 := tilefarmref7_Shift.mono_l k
    · intro y0 y1 y2
      unfold tilefarmref7_Shift.j0
      repeat' first
      | (with_reducible exact ih0 _ _ _)
      | (with_reducible exact LeO.refl _)
      | (with_reducible exact LeO.none _)
      | (with_reducible refine LeO.ite ?_ ?_)
      | (with_reducible refine LeO.bind ?_ (fun _ => ?_))
      | exact ih0 _ _ _
      | exact LeO.none _
      | refine LeO.ite ?_ ?_
      | refine LeO.bind ?_ (fun _ => ?_)
theorem tilefarmref7_Shift.mono : ∀ a0 a1 k, LeO (tilefarmref7_Shift.f k a0 a1) (tilefarmref7_Shift.f (k + 1) a0 a1) := by
  intro a0 a1 k
  have ih0 := tilefarmref7_Shift.mono_l k
  unfold tilefarmref7_Shift.f
  repeat' first
      | (with_reducible exact ih0 _ _ _)
      | (with_reducible exact LeO.refl _)
      | (with_reducible exact LeO.none _)
      | (with_reducible refine LeO.ite ?_ ?_)
      | (with_reducible refine LeO.bind ?_ (fun _ => ?_))
      | exact ih0 _ _ _
      | exact LeO.none _
      | refine LeO.ite ?_ ?_
      | refine LeO.bind ?_ (fun _ => ?_)
set_option maxHeartbeats 8000000 in
set_option maxRecDepth 100000 in
theorem tilefarmref7_Shift.calls (k : Nat) (a0 : Int) (a1 : Int) (r : Int) (w : World) (h : tilefarmref7_Shift.f k a0 a1 = some r) :
    Calls Try.prog 55 #[.int .i64 a0, .int .i64 a1] w fun e w' => e = .returned (.int .i64 r) ∧ Drawn0 w w' := by
  have H : ((tilefarmref7_Acc.f a0).bind fun t144 => (if t144 = true then ((tilefarmref7_IsShift.f a1).bind fun t145 => (tilefarmref7_Shift.j0 k a0 a1 (!t145))) else (tilefarmref7_Shift.j0 k a0 a1 true))) = some r := h
  clear h
  have HC3 := Aside0.mk H
  clear H
  go_enter Try.func55, Try.ntmps55
  go_upto_region 1 with (fail)
  go_cut [15] (fun v15 wc => ∃ (kq : Nat) (x15_2 : Bool), v15 = .bool x15_2 ∧ Aside0 (tilefarmref7_Shift.j0 kq a0 a1 x15_2 = some r) ∧ Aside0 (kq ≤ k) ∧ Drawn0 w wc)
  case first =>
    have H := HC3.out
    clear HC3
    replace H := Option.bind_eq_some_iff.mp H
    obtain ⟨t144, A40, H⟩ := H
    replace H : (if t144 = true then ((tilefarmref7_IsShift.f a1).bind fun t145 => (tilefarmref7_Shift.j0 k a0 a1 (!t145))) else (tilefarmref7_Shift.j0 k a0 a1 true)) = some r := H
    have A4 := Aside0.mk A40
    clear A40
    by_cases c5 : t144 = true
    · subst c5
      have H1 : ((tilefarmref7_IsShift.f a1).bind fun t145 => (tilefarmref7_Shift.j0 k a0 a1 (!t145))) = some r := by rw [if_pos rfl] at H; exact H
      clear H
      have H := H1
      clear H1
      replace H := Option.bind_eq_some_iff.mp H
      obtain ⟨t145, A60, H⟩ := H
      replace H : (tilefarmref7_Shift.j0 k a0 a1 (!t145)) = some r := H
      have A6 := Aside0.mk A60
      clear A60
      have H' := Aside0.mk H
      clear H
      go_wp2_with (first | ((with_reducible refine gate_callee (f := 64) rfl ?_); refine goesL_ (some 9) rfl rfl Try.func64 (by kernel_rfl) rfl #[.int .i64 a0] rfl q60_ ?_; (with_reducible refine (tilefarmref7_Acc.calls a0 true _ A4.out).mono ?_); rintro e w' ⟨rfl, ⟨nd, rfl⟩⟩; refine ⟨_, rfl, ?_⟩) | (go_at_call 34; (with_reducible refine (tilefarmref7_IsShift.calls a1 t145 _ A6.out).mono ?_); rintro e w' ⟨rfl, ⟨nd, rfl⟩⟩))
      go_meet
      case rel => exact ⟨_, (!t145), q109_, H', ⟨by first | omega | exact Nat.le_refl _⟩, q106_⟩
    · replace c5 := Bool.eq_false_iff.mpr c5
      subst c5
      have H1 : (tilefarmref7_Shift.j0 k a0 a1 true) = some r := by rw [if_neg (show ¬ (false = true) by decide)] at H; exact H
      clear H
      have H := H1
      clear H1
      have H' := Aside0.mk H
      clear H
      go_wp2_with (first | ((with_reducible refine gate_callee (f := 64) rfl ?_); refine goesL_ (some 9) rfl rfl Try.func64 (by kernel_rfl) rfl #[.int .i64 a0] rfl q60_ ?_; (with_reducible refine (tilefarmref7_Acc.calls a0 false _ A4.out).mono ?_); rintro e w' ⟨rfl, ⟨nd, rfl⟩⟩; refine ⟨_, rfl, ?_⟩))
      go_meet
      case rel => exact ⟨_, (true), q109_, H', ⟨by first | omega | exact Nat.le_refl _⟩, q106_⟩
  case rest =>
    clear HC3
    try clear p2
    try clear c5
    try clear c6
    obtain ⟨kq, x15_2, rfl, HA, HJ2, ⟨mc2, rfl⟩⟩ := hcut
    cases kq with
    | zero => exact absurd HA.out (by simp [tilefarmref7_Shift.j0])
    | succ kj2 =>
      have H := HA.out
      clear HA
      simp only [tilefarmref7_Shift.j0] at H
      by_cases c7 : x15_2 = true
      · subst c7
        have H1 : (some 0) = some r := by rw [if_pos rfl] at H; exact H
        clear H
        have H := H1
        clear H1
        obtain rfl := Option.some.inj H
        go_wp2
        go_ret
        exact ⟨q109_, q106_⟩
      · replace c7 := Bool.eq_false_iff.mpr c7
        subst c7
        have H1 : (if a1 = 0 then (some a0) else (if 0 ≤ (IntKind.u64.wrap (wrap64 (a1 - 1))) then (if 0 ≤ (IntKind.u64.wrap (a1)) then (if (shl .i64 1 (IntKind.u64.wrap (a1))) = 0 then (none) else (if (wrap64 ((wrap64 (Int.tdiv (wrap64 (a0 + (shl .i64 1 (IntKind.u64.wrap (wrap64 (a1 - 1)))))) (shl .i64 1 (IntKind.u64.wrap (a1))))) * (shl .i64 1 (IntKind.u64.wrap (a1))))) > (wrap64 (a0 + (shl .i64 1 (IntKind.u64.wrap (wrap64 (a1 - 1)))))) then (some (wrap64 ((wrap64 (Int.tdiv (wrap64 (a0 + (shl .i64 1 (IntKind.u64.wrap (wrap64 (a1 - 1)))))) (shl .i64 1 (IntKind.u64.wrap (a1))))) - 1))) else (some (wrap64 (Int.tdiv (wrap64 (a0 + (shl .i64 1 (IntKind.u64.wrap (wrap64 (a1 - 1)))))) (shl .i64 1 (IntKind.u64.wrap (a1)))))))) else (none)) else (none))) = some r := by rw [if_neg (show ¬ (false = true) by decide)] at H; exact H
        clear H
        have H := H1
        clear H1
        by_cases c8 : a1 = 0
        · rw [if_pos c8] at H
          have c8b0 : (a1 == 0) = true := beq_iff_eq.mpr c8
          have c8b1 : (a1 != 0) = false := bne_eq_false_iff_eq.mpr c8
          clear c8
          obtain rfl := Option.some.inj H
          go_wp2
          go_ret
          exact ⟨q109_, q106_⟩
        · rw [if_neg c8] at H
          have c8b0 : (a1 == 0) = false := beq_eq_false_iff_ne.mpr c8
          have c8b1 : (a1 != 0) = true := bne_iff_ne.mpr c8
          obtain ⟨ji9, hji9⟩ : ∃ j_ : Int, (IntKind.u64.wrap (wrap64 (a1 - 1))) = j_ := ⟨_, rfl⟩
          replace H : (if 0 ≤ (ji9) then (if 0 ≤ (IntKind.u64.wrap (a1)) then (if (shl .i64 1 (IntKind.u64.wrap (a1))) = 0 then (none) else (if (wrap64 ((wrap64 (Int.tdiv (wrap64 (a0 + (shl .i64 1 (ji9)))) (shl .i64 1 (IntKind.u64.wrap (a1))))) * (shl .i64 1 (IntKind.u64.wrap (a1))))) > (wrap64 (a0 + (shl .i64 1 (ji9)))) then (some (wrap64 ((wrap64 (Int.tdiv (wrap64 (a0 + (shl .i64 1 (ji9)))) (shl .i64 1 (IntKind.u64.wrap (a1))))) - 1))) else (some (wrap64 (Int.tdiv (wrap64 (a0 + (shl .i64 1 (ji9)))) (shl .i64 1 (IntKind.u64.wrap (a1)))))))) else (none)) else (none)) = some r := by first | (rw [hji9] at H; exact H) | (simp only [hji9] at H ⊢; exact H)
          by_cases c10 : 0 ≤ (ji9)
          · rw [if_pos c10] at H
            have c10b0 := eq_true c10
            have c10b1 : decide (0 ≤ (ji9)) = true := decide_eq_true c10
            clear c10
            obtain ⟨ji11, hji11⟩ : ∃ j_ : Int, (shl .i64 1 (ji9)) = j_ := ⟨_, rfl⟩
            replace H : (if 0 ≤ (IntKind.u64.wrap (a1)) then (if (shl .i64 1 (IntKind.u64.wrap (a1))) = 0 then (none) else (if (wrap64 ((wrap64 (Int.tdiv (wrap64 (a0 + (ji11))) (shl .i64 1 (IntKind.u64.wrap (a1))))) * (shl .i64 1 (IntKind.u64.wrap (a1))))) > (wrap64 (a0 + (ji11))) then (some (wrap64 ((wrap64 (Int.tdiv (wrap64 (a0 + (ji11))) (shl .i64 1 (IntKind.u64.wrap (a1))))) - 1))) else (some (wrap64 (Int.tdiv (wrap64 (a0 + (ji11))) (shl .i64 1 (IntKind.u64.wrap (a1)))))))) else (none)) = some r := by first | (rw [hji11] at H; exact H) | (simp only [hji11] at H ⊢; exact H)
            have hji11_ : (IntKind.i64.wrap (1 * 2 ^ min (ji9).toNat 64)) = ji11 := hji11
            have hji11z : (ji9) ≤ 64 → (IntKind.i64.wrap (1 * 2 ^ (ji9).toNat)) = ji11 := shl_small hji11
            have hji11u : (IntKind.i64.wrap (2 ^ min (ji9).toNat 64)) = ji11 := by have h_ := hji11_; rw [Int.one_mul] at h_; exact h_
            have hji11v : (ji9) ≤ 64 → (IntKind.i64.wrap (2 ^ (ji9).toNat)) = ji11 := fun hle_ => by have h_ := hji11z hle_; rw [Int.one_mul] at h_; exact h_
            have hji11y : (wrap64 (1 * 2 ^ min (ji9).toNat 64)) = ji11 := (i64_w _).symm.trans hji11_
            have hji11x : (ji9) ≤ 64 → (wrap64 (1 * 2 ^ (ji9).toNat)) = ji11 := fun h_ => (i64_w _).symm.trans (hji11z h_)
            obtain ⟨ji12, hji12⟩ : ∃ j_ : Int, (IntKind.u64.wrap (a1)) = j_ := ⟨_, rfl⟩
            replace H : (if 0 ≤ (ji12) then (if (shl .i64 1 (ji12)) = 0 then (none) else (if (wrap64 ((wrap64 (Int.tdiv (wrap64 (a0 + (ji11))) (shl .i64 1 (ji12)))) * (shl .i64 1 (ji12)))) > (wrap64 (a0 + (ji11))) then (some (wrap64 ((wrap64 (Int.tdiv (wrap64 (a0 + (ji11))) (shl .i64 1 (ji12)))) - 1))) else (some (wrap64 (Int.tdiv (wrap64 (a0 + (ji11))) (shl .i64 1 (ji12))))))) else (none)) = some r := by first | (rw [hji12] at H; exact H) | (simp only [hji12] at H ⊢; exact H)
            by_cases c13 : 0 ≤ (ji12)
            · rw [if_pos c13] at H
              have c13b0 := eq_true c13
              have c13b1 : decide (0 ≤ (ji12)) = true := decide_eq_true c13
              clear c13
              obtain ⟨ji14, hji14⟩ : ∃ j_ : Int, (shl .i64 1 (ji12)) = j_ := ⟨_, rfl⟩
              replace H : (if (ji14) = 0 then (none) else (if (wrap64 ((wrap64 (Int.tdiv (wrap64 (a0 + (ji11))) (ji14))) * (ji14))) > (wrap64 (a0 + (ji11))) then (some (wrap64 ((wrap64 (Int.tdiv (wrap64 (a0 + (ji11))) (ji14))) - 1))) else (some (wrap64 (Int.tdiv (wrap64 (a0 + (ji11))) (ji14)))))) = some r := by first | (rw [hji14] at H; exact H) | (simp only [hji14] at H ⊢; exact H)
              have hji14_ : (IntKind.i64.wrap (1 * 2 ^ min (ji12).toNat 64)) = ji14 := hji14
              have hji14z : (ji12) ≤ 64 → (IntKind.i64.wrap (1 * 2 ^ (ji12).toNat)) = ji14 := shl_small hji14
              have hji14u : (IntKind.i64.wrap (2 ^ min (ji12).toNat 64)) = ji14 := by have h_ := hji14_; rw [Int.one_mul] at h_; exact h_
              have hji14v : (ji12) ≤ 64 → (IntKind.i64.wrap (2 ^ (ji12).toNat)) = ji14 := fun hle_ => by have h_ := hji14z hle_; rw [Int.one_mul] at h_; exact h_
              have hji14y : (wrap64 (1 * 2 ^ min (ji12).toNat 64)) = ji14 := (i64_w _).symm.trans hji14_
              have hji14x : (ji12) ≤ 64 → (wrap64 (1 * 2 ^ (ji12).toNat)) = ji14 := fun h_ => (i64_w _).symm.trans (hji14z h_)
              by_cases c15 : (ji14) = 0
              · rw [if_pos c15] at H
                exact absurd H (by simp)
              · rw [if_neg c15] at H
                have c15b0 : ((ji14) == 0) = false := beq_eq_false_iff_ne.mpr c15
                have c15b1 : ((ji14) != 0) = true := bne_iff_ne.mpr c15
                by_cases c16 : (wrap64 ((wrap64 (Int.tdiv (wrap64 (a0 + (ji11))) (ji14))) * (ji14))) > (wrap64 (a0 + (ji11)))
                · rw [if_pos c16] at H
                  have c16b0 : decide ((wrap64 (a0 + (ji11))) < (wrap64 ((wrap64 (Int.tdiv (wrap64 (a0 + (ji11))) (ji14))) * (ji14)))) = true := decide_eq_true c16
                  clear c16
                  obtain rfl := Option.some.inj H
                  go_wp2
                  go_ret
                  exact ⟨by first | rfl | (simp; done) | (simp only [← hji9, ← hji11, ← hji12, ← hji14] <;> (first | rfl | simp)) | (simp [*]; done), q106_⟩
                · rw [if_neg c16] at H
                  have c16b0 : decide ((wrap64 (a0 + (ji11))) < (wrap64 ((wrap64 (Int.tdiv (wrap64 (a0 + (ji11))) (ji14))) * (ji14)))) = false := decide_eq_false c16
                  clear c16
                  obtain rfl := Option.some.inj H
                  go_wp2
                  go_ret
                  exact ⟨by first | rfl | (simp; done) | (simp only [← hji9, ← hji11, ← hji12, ← hji14] <;> (first | rfl | simp)) | (simp [*]; done), q106_⟩
            · rw [if_neg c13] at H
              exact absurd H (by simp)
          · rw [if_neg c10] at H
            exact absurd H (by simp)


def tilefarmref7_Span.f (k : Nat) (a0 : Int) (a1 : Int) (a2 : Int) : Option (Int × Int) := (tilefarmref7_Shift.f k a0 a2).bind fun t146 => ((tilefarmref7_Shift.f k a1 a2).bind fun t147 => (some (t146, t147)))
theorem tilefarmref7_Span.mono : ∀ a0 a1 a2 k, LeO (tilefarmref7_Span.f k a0 a1 a2) (tilefarmref7_Span.f (k + 1) a0 a1 a2) := by
  intro a0 a1 a2 k
  unfold tilefarmref7_Span.f
  repeat' first
      | (with_reducible exact tilefarmref7_Shift.mono _ _ _)
      | (with_reducible exact LeO.refl _)
      | (with_reducible exact LeO.none _)
      | (with_reducible refine LeO.ite ?_ ?_)
      | (with_reducible refine LeO.bind ?_ (fun _ => ?_))
      | exact tilefarmref7_Shift.mono _ _ _
      | exact LeO.none _
      | refine LeO.ite ?_ ?_
      | refine LeO.bind ?_ (fun _ => ?_)
set_option maxHeartbeats 8000000 in
set_option maxRecDepth 100000 in
theorem tilefarmref7_Span.calls (k : Nat) (a0 : Int) (a1 : Int) (a2 : Int) (r1 : Int) (r2 : Int) (w : World) (h : tilefarmref7_Span.f k a0 a1 a2 = some (r1, r2)) :
    Calls Try.prog 37 #[.int .i64 a0, .int .i64 a1, .int .i64 a2] w fun e w' => e = .returned (.tuple #[.int .i64 r1, .int .i64 r2]) ∧ Drawn0 w w' := by
  have H : ((tilefarmref7_Shift.f k a0 a2).bind fun t146 => ((tilefarmref7_Shift.f k a1 a2).bind fun t147 => (some (t146, t147)))) = some (r1, r2) := h
  clear h
  replace H := Option.bind_eq_some_iff.mp H
  obtain ⟨t146, A40, H⟩ := H
  replace H : ((tilefarmref7_Shift.f k a1 a2).bind fun t147 => (some (t146, t147))) = some (r1, r2) := H
  have A4 := Aside0.mk A40
  clear A40
  replace H := Option.bind_eq_some_iff.mp H
  obtain ⟨t147, A50, H⟩ := H
  replace H : (some (t146, t147)) = some (r1, r2) := H
  have A5 := Aside0.mk A50
  clear A50
  simp only [Option.some.injEq, Prod.mk.injEq] at H
  obtain ⟨rfl, rfl⟩ := H
  go_enter Try.func37, Try.ntmps37
  go_wp2_with (first | ((with_reducible refine gate_callee (f := 55) rfl ?_); refine goesL_ (some 10) rfl rfl Try.func55 (by kernel_rfl) rfl #[.int .i64 a0, .int .i64 a2] rfl q60_ ?_; (with_reducible refine (tilefarmref7_Shift.calls k a0 a2 t146 _ A4.out).mono ?_); rintro e w' ⟨rfl, ⟨nd, rfl⟩⟩; refine ⟨_, rfl, ?_⟩) | ((with_reducible refine gate_callee (f := 55) rfl ?_); refine goesL_ (some 13) rfl rfl Try.func55 (by kernel_rfl) rfl #[.int .i64 a1, .int .i64 a2] rfl q60_ ?_; (with_reducible refine (tilefarmref7_Shift.calls k a1 a2 t147 _ A5.out).mono ?_); rintro e w' ⟨rfl, ⟨nd, rfl⟩⟩; refine ⟨_, rfl, ?_⟩))
  go_ret2
  exact ⟨q109_, q106_⟩

end Go.Proofs.Ytcfllciehmgikaa.PSeparableChecks
