-- Written by a program of the session (wip/tools/pack.py): the printed texts, pruned; checked by Lean.
import Derived.Test.YtepbjipmfchpnaaKFixedBoundsa
import Derived.Test.YtepbjipmfchpnaaKFixedBoundsx0
import Derived.Test.YtepbjipmfchpnaaKFixedBoundsx1
import Derived.Test.YtepbjipmfchpnaaKFixedBoundsx2
namespace Go.Proofs.Ytepbjipmfchpnaa.PFixedBounds
open Go.RowKit Go.Proofs.YtepbjipmfchpnaaW.PrintWords Go.Proofs.YtepbjipmfchpnaaW.PrintLast Go.Proofs.YtepbjipmfchpnaaW.PrintMore
attribute [local go_sem] max2_int min2_int max_two min_two max_three min_three max_four min_four   -- for this text's walks alone
set_option linter.unusedVariables false
set_option linter.unusedSimpArgs false
def fixed_Shift.j0 : Nat → Int → Int → Bool → Option (Int)
  | 0, _, _, _ => none
  | k + 1, x0, x1, x5 => if x5 = true then (some 0) else (if x1 = 0 then (some x0) else (if 0 ≤ (wrap64 (x1 - 1)) then (if 0 ≤ x1 then (some (shr .i64 (wrap64 (x0 + (shl .i64 1 (wrap64 (x1 - 1))))) x1)) else (none)) else (none)))
def fixed_Shift.f (k : Nat) (a0 : Int) (a1 : Int) : Option (Int) := (fixed_sum.f a0).bind fun t127 => (if t127 = true then (if a1 < 0 then (fixed_Shift.j0 k a0 a1 true) else (fixed_Shift.j0 k a0 a1 (decide (a1 > 24)))) else (fixed_Shift.j0 k a0 a1 true))
theorem fixed_Shift.mono_l : ∀ k, (∀ y0 y1 y2, LeO (fixed_Shift.j0 k y0 y1 y2) (fixed_Shift.j0 (k + 1) y0 y1 y2))
  | 0 => fun _ _ _ r h => by simp [fixed_Shift.j0] at h
  | k + 1 => by
    have ih0 := fixed_Shift.mono_l k
    · intro y0 y1 y2
      unfold fixed_Shift.j0
      repeat' first
      | (with_reducible exact ih0 _ _ _)
      | (with_reducible exact LeO.refl _)
      | (with_reducible exact LeO.none _)
      | (with_reducible refine LeO.ite ?_ ?_)
      | (with_reducible refine LeO.bind ?_ (fun _ => ?_))
      | exact ih0 _ _ _
      | exact LeO.none _
      | refine LeO.ite ?_ ?_
      | refine LeO.bind ?_ (fun _ => ?_)
theorem fixed_Shift.mono : ∀ a0 a1 k, LeO (fixed_Shift.f k a0 a1) (fixed_Shift.f (k + 1) a0 a1) := by
  intro a0 a1 k
  have ih0 := fixed_Shift.mono_l k
  unfold fixed_Shift.f
  repeat' first
      | (with_reducible exact ih0 _ _ _)
      | (with_reducible exact LeO.refl _)
      | (with_reducible exact LeO.none _)
      | (with_reducible refine LeO.ite ?_ ?_)
      | (with_reducible refine LeO.bind ?_ (fun _ => ?_))
      | exact ih0 _ _ _
      | exact LeO.none _
      | refine LeO.ite ?_ ?_
      | refine LeO.bind ?_ (fun _ => ?_)
set_option maxHeartbeats 8000000 in
set_option maxRecDepth 100000 in
theorem fixed_Shift.calls (k : Nat) (a0 : Int) (a1 : Int) (r : Int) (w : World) (h : fixed_Shift.f k a0 a1 = some r) :
    Calls Try.prog 20 #[.int .i64 a0, .int .i64 a1] w fun e w' => e = .returned (.int .i64 r) ∧ Drawn0 w w' := by
  have H : ((fixed_sum.f a0).bind fun t127 => (if t127 = true then (if a1 < 0 then (fixed_Shift.j0 k a0 a1 true) else (fixed_Shift.j0 k a0 a1 (decide (a1 > 24)))) else (fixed_Shift.j0 k a0 a1 true))) = some r := h
  clear h
  have HC3 := Aside0.mk H
  clear H
  go_enter Try.func20, Try.ntmps20
  go_upto_region 1 with (fail)
  go_cut [5] (fun v5 wc => ∃ (kq : Nat) (x5_2 : Bool), v5 = .bool x5_2 ∧ Aside0 (fixed_Shift.j0 kq a0 a1 x5_2 = some r) ∧ Aside0 (kq ≤ k) ∧ Drawn0 w wc)
  case first =>
    have H := HC3.out
    clear HC3
    replace H := Option.bind_eq_some_iff.mp H
    obtain ⟨t127, A40, H⟩ := H
    replace H : (if t127 = true then (if a1 < 0 then (fixed_Shift.j0 k a0 a1 true) else (fixed_Shift.j0 k a0 a1 (decide (a1 > 24)))) else (fixed_Shift.j0 k a0 a1 true)) = some r := H
    have A4 := Aside0.mk A40
    clear A40
    by_cases c5 : t127 = true
    · subst c5
      have H1 : (if a1 < 0 then (fixed_Shift.j0 k a0 a1 true) else (fixed_Shift.j0 k a0 a1 (decide (a1 > 24)))) = some r := by rw [if_pos rfl] at H; exact H
      clear H
      have H := H1
      clear H1
      by_cases c6 : a1 < 0
      · rw [if_pos c6] at H
        have c6b0 : decide (a1 < 0) = true := decide_eq_true c6
        clear c6
        (first | rw [c6b0] | (simp only [i64_w, i32_w]; rw [c6b0]) | skip)
        have H' := Aside0.mk H
        clear H
        go_wp2_with (first | ((with_reducible refine gate_callee (f := 27) rfl ?_); refine goesL_ (some 7) rfl rfl Try.func27 (by kernel_rfl) rfl #[.int .i64 a0] rfl q10_ ?_; (with_reducible refine (fixed_sum.calls a0 true _ A4.out).mono ?_); rintro e w' ⟨rfl, ⟨nd, rfl⟩⟩; refine ⟨_, rfl, ?_⟩))
        go_meet
        case rel => exact ⟨_, (true), q22_, H', ⟨by first | omega | exact Nat.le_refl _⟩, q20_⟩
      · rw [if_neg c6] at H
        have c6b0 : decide (a1 < 0) = false := decide_eq_false c6
        clear c6
        (first | rw [c6b0] | (simp only [i64_w, i32_w]; rw [c6b0]) | skip)
        have H' := Aside0.mk H
        clear H
        go_wp2_with (first | ((with_reducible refine gate_callee (f := 27) rfl ?_); refine goesL_ (some 7) rfl rfl Try.func27 (by kernel_rfl) rfl #[.int .i64 a0] rfl q10_ ?_; (with_reducible refine (fixed_sum.calls a0 true _ A4.out).mono ?_); rintro e w' ⟨rfl, ⟨nd, rfl⟩⟩; refine ⟨_, rfl, ?_⟩))
        go_meet
        case rel => exact ⟨_, (decide (a1 > 24)), q22_, H', ⟨by first | omega | exact Nat.le_refl _⟩, q20_⟩
    · replace c5 := Bool.eq_false_iff.mpr c5
      subst c5
      have H1 : (fixed_Shift.j0 k a0 a1 true) = some r := by rw [if_neg (show ¬ (false = true) by decide)] at H; exact H
      clear H
      have H := H1
      clear H1
      have H' := Aside0.mk H
      clear H
      go_wp2_with (first | ((with_reducible refine gate_callee (f := 27) rfl ?_); refine goesL_ (some 7) rfl rfl Try.func27 (by kernel_rfl) rfl #[.int .i64 a0] rfl q10_ ?_; (with_reducible refine (fixed_sum.calls a0 false _ A4.out).mono ?_); rintro e w' ⟨rfl, ⟨nd, rfl⟩⟩; refine ⟨_, rfl, ?_⟩))
      go_meet
      case rel => exact ⟨_, (true), q22_, H', ⟨by first | omega | exact Nat.le_refl _⟩, q20_⟩
  case rest =>
    clear HC3
    try clear c2
    try clear p2
    try clear c5
    try clear c6
    try clear c6b0
    obtain ⟨kq, x5_2, rfl, HA, HJ2, ⟨mc2, rfl⟩⟩ := hcut
    cases kq with
    | zero => exact absurd HA.out (by simp [fixed_Shift.j0])
    | succ kj2 =>
      have H := HA.out
      clear HA
      simp only [fixed_Shift.j0] at H
      by_cases c7 : x5_2 = true
      · subst c7
        have H1 : (some 0) = some r := by rw [if_pos rfl] at H; exact H
        clear H
        have H := H1
        clear H1
        obtain rfl := Option.some.inj H
        go_wp2
        go_ret
        exact ⟨q22_, q20_⟩
      · replace c7 := Bool.eq_false_iff.mpr c7
        subst c7
        have H1 : (if a1 = 0 then (some a0) else (if 0 ≤ (wrap64 (a1 - 1)) then (if 0 ≤ a1 then (some (shr .i64 (wrap64 (a0 + (shl .i64 1 (wrap64 (a1 - 1))))) a1)) else (none)) else (none))) = some r := by rw [if_neg (show ¬ (false = true) by decide)] at H; exact H
        clear H
        have H := H1
        clear H1
        by_cases c8 : a1 = 0
        · rw [if_pos c8] at H
          have c8b0 : (a1 == 0) = true := beq_iff_eq.mpr c8
          have c8b1 : (a1 != 0) = false := bne_eq_false_iff_eq.mpr c8
          clear c8
          obtain rfl := Option.some.inj H
          go_wp2
          go_ret
          exact ⟨q22_, q20_⟩
        · rw [if_neg c8] at H
          have c8b0 : (a1 == 0) = false := beq_eq_false_iff_ne.mpr c8
          have c8b1 : (a1 != 0) = true := bne_iff_ne.mpr c8
          obtain ⟨ji9, hji9⟩ : ∃ j_ : Int, (wrap64 (a1 - 1)) = j_ := ⟨_, rfl⟩
          replace H : (if 0 ≤ (ji9) then (if 0 ≤ a1 then (some (shr .i64 (wrap64 (a0 + (shl .i64 1 (ji9)))) a1)) else (none)) else (none)) = some r := by first | (rw [hji9] at H; exact H) | (simp only [hji9] at H ⊢; exact H)
          have hji9w : (IntKind.i64.wrap (a1 - 1)) = ji9 := (i64_w _).trans hji9
          by_cases c10 : 0 ≤ (ji9)
          · rw [if_pos c10] at H
            have c10b0 := eq_true c10
            have c10b1 : decide (0 ≤ (ji9)) = true := decide_eq_true c10
            clear c10
            obtain ⟨ji11, hji11⟩ : ∃ j_ : Int, (shl .i64 1 (ji9)) = j_ := ⟨_, rfl⟩
            replace H : (if 0 ≤ a1 then (some (shr .i64 (wrap64 (a0 + (ji11))) a1)) else (none)) = some r := by first | (rw [hji11] at H; exact H) | (simp only [hji11] at H ⊢; exact H)
            have hji11_ : (IntKind.i64.wrap (1 * 2 ^ min (ji9).toNat 64)) = ji11 := hji11
            have hji11z : (ji9) ≤ 64 → (IntKind.i64.wrap (1 * 2 ^ (ji9).toNat)) = ji11 := shl_small hji11
            have hji11u : (IntKind.i64.wrap (2 ^ min (ji9).toNat 64)) = ji11 := by have h_ := hji11_; rw [Int.one_mul] at h_; exact h_
            have hji11v : (ji9) ≤ 64 → (IntKind.i64.wrap (2 ^ (ji9).toNat)) = ji11 := fun hle_ => by have h_ := hji11z hle_; rw [Int.one_mul] at h_; exact h_
            have hji11y : (wrap64 (1 * 2 ^ min (ji9).toNat 64)) = ji11 := (i64_w _).symm.trans hji11_
            have hji11x : (ji9) ≤ 64 → (wrap64 (1 * 2 ^ (ji9).toNat)) = ji11 := fun h_ => (i64_w _).symm.trans (hji11z h_)
            by_cases c12 : 0 ≤ a1
            · rw [if_pos c12] at H
              have c12b0 := eq_true c12
              have c12b1 : decide (0 ≤ a1) = true := decide_eq_true c12
              clear c12
              obtain ⟨ji13, hji13⟩ : ∃ j_ : Int, (shr .i64 (wrap64 (a0 + (ji11))) a1) = j_ := ⟨_, rfl⟩
              replace H : (some ji13) = some r := by first | (rw [hji13] at H; exact H) | (simp only [hji13] at H ⊢; exact H)
              have hji13_ : ((wrap64 (a0 + (ji11))) / 2 ^ min a1.toNat 64) = ji13 := hji13
              have hji13z : a1 ≤ 64 → ((wrap64 (a0 + (ji11))) / 2 ^ a1.toNat) = ji13 := shr_small hji13
              obtain rfl := Option.some.inj H
              go_wp2
              go_ret
              exact ⟨by first | rfl | (simp; done) | (simp only [← hji9, ← hji11, ← hji13] <;> (first | rfl | simp)) | (simp [*]; done), q20_⟩
            · rw [if_neg c12] at H
              exact absurd H (by simp)
          · rw [if_neg c10] at H
            exact absurd H (by simp)


def tilefarmlaw7_sane.f (k : Nat)  : Option (Bool) := (fixed_Bounds.f k (([1, (-2)] : List Int)) 0 10).bind fun bt131 => ((fixed_Shift.f k 5 1).bind fun t134 => (if t134 = 3 then ((fixed_Shift.f k (-5) 1).bind fun t135 => (if t135 = (-2) then ((fixed_Shift.f k (-6) 2).bind fun t136 => (if t136 = (-1) then (if bt131.2.2 = true then (if bt131.1 = (-20) then (if bt131.2.1 = 10 then ((fixed_Clamp.f 9 5).bind fun t137 => (some (t137 == 5))) else (some false)) else (some false)) else (some false)) else (some false))) else (some false))) else (some false)))
theorem tilefarmlaw7_sane.mono : ∀ k, LeO (tilefarmlaw7_sane.f k ) (tilefarmlaw7_sane.f (k + 1) ) := by
  intro  k
  unfold tilefarmlaw7_sane.f
  repeat' first
      | (with_reducible exact fixed_Bounds.mono _ _ _ _)
      | (with_reducible exact fixed_Shift.mono _ _ _)
      | (with_reducible exact LeO.refl _)
      | (with_reducible exact LeO.none _)
      | (with_reducible refine LeO.ite ?_ ?_)
      | (with_reducible refine LeO.bind ?_ (fun _ => ?_))
      | exact fixed_Bounds.mono _ _ _ _
      | exact fixed_Shift.mono _ _ _
      | exact LeO.none _
      | refine LeO.ite ?_ ?_
      | refine LeO.bind ?_ (fun _ => ?_)
set_option maxHeartbeats 8000000 in
set_option maxRecDepth 100000 in
theorem tilefarmlaw7_sane.calls (k : Nat)  (r : Bool) (w : World) (h : tilefarmlaw7_sane.f k  = some r) (hT : r = true := by first | rfl | assumption | exact HT.out) :
    Calls Try.prog 15 #[] w fun e w' => e = .returned (.bool r) ∧ Below w.heap.size w w' := by
  have HT := Aside0.mk hT
  clear hT
  have HB := Aside0.mk (Below.refl w.heap.size w)
  have H : ((fixed_Bounds.f k (([1, (-2)] : List Int)) 0 10).bind fun bt131 => ((fixed_Shift.f k 5 1).bind fun t134 => (if t134 = 3 then ((fixed_Shift.f k (-5) 1).bind fun t135 => (if t135 = (-2) then ((fixed_Shift.f k (-6) 2).bind fun t136 => (if t136 = (-1) then (if bt131.2.2 = true then (if bt131.1 = (-20) then (if bt131.2.1 = 10 then ((fixed_Clamp.f 9 5).bind fun t137 => (some (t137 == 5))) else (some false)) else (some false)) else (some false)) else (some false))) else (some false))) else (some false)))) = some r := h
  clear h
  obtain ⟨y128, hy128⟩ : ∃ y_ : List Int, y_ = (([1, (-2)] : List Int)) := ⟨_, rfl⟩
  replace H : ((fixed_Bounds.f k y128 0 10).bind fun bt131 => ((fixed_Shift.f k 5 1).bind fun t134 => (if t134 = 3 then ((fixed_Shift.f k (-5) 1).bind fun t135 => (if t135 = (-2) then ((fixed_Shift.f k (-6) 2).bind fun t136 => (if t136 = (-1) then (if bt131.2.2 = true then (if bt131.1 = (-20) then (if bt131.2.1 = 10 then ((fixed_Clamp.f 9 5).bind fun t137 => (some (t137 == 5))) else (some false)) else (some false)) else (some false)) else (some false))) else (some false))) else (some false)))) = some r := by first | (rw [hy128]; with_reducible exact H) | (have H2_ := (Option.bind_some _ _).symm.trans H; rw [hy128]; with_reducible exact H2_) | (have H2_ := (Option.bind_some _ _).symm.trans H; with_reducible exact H2_) | with_reducible exact H | (rw [hy128]; exact H) | exact H
  have Ny128 := Aside0.mk hy128
  clear hy128
  replace H := Option.bind_eq_some_iff.mp H
  obtain ⟨⟨t131, t132, t133⟩, A10, H⟩ := H
  replace H : ((fixed_Shift.f k 5 1).bind fun t134 => (if t134 = 3 then ((fixed_Shift.f k (-5) 1).bind fun t135 => (if t135 = (-2) then ((fixed_Shift.f k (-6) 2).bind fun t136 => (if t136 = (-1) then (if t133 = true then (if t131 = (-20) then (if t132 = 10 then ((fixed_Clamp.f 9 5).bind fun t137 => (some (t137 == 5))) else (some false)) else (some false)) else (some false)) else (some false))) else (some false))) else (some false))) = some r := H
  have A1 := Aside0.mk A10
  clear A10
  replace H := Option.bind_eq_some_iff.mp H
  obtain ⟨t134, A20, H⟩ := H
  replace H : (if t134 = 3 then ((fixed_Shift.f k (-5) 1).bind fun t135 => (if t135 = (-2) then ((fixed_Shift.f k (-6) 2).bind fun t136 => (if t136 = (-1) then (if t133 = true then (if t131 = (-20) then (if t132 = 10 then ((fixed_Clamp.f 9 5).bind fun t137 => (some (t137 == 5))) else (some false)) else (some false)) else (some false)) else (some false))) else (some false))) else (some false)) = some r := H
  have A2 := Aside0.mk A20
  clear A20
  by_cases c3 : t134 = 3
  · rw [if_pos c3] at H
    have c3b0 : (t134 == 3) = true := beq_iff_eq.mpr c3
    have c3b1 : (t134 != 3) = false := bne_eq_false_iff_eq.mpr c3
    clear c3
    replace H := Option.bind_eq_some_iff.mp H
    obtain ⟨t135, A40, H⟩ := H
    replace H : (if t135 = (-2) then ((fixed_Shift.f k (-6) 2).bind fun t136 => (if t136 = (-1) then (if t133 = true then (if t131 = (-20) then (if t132 = 10 then ((fixed_Clamp.f 9 5).bind fun t137 => (some (t137 == 5))) else (some false)) else (some false)) else (some false)) else (some false))) else (some false)) = some r := H
    have A4 := Aside0.mk A40
    clear A40
    by_cases c5 : t135 = (-2)
    · rw [if_pos c5] at H
      have c5b0 : (t135 == (-2)) = true := beq_iff_eq.mpr c5
      have c5b1 : (t135 != (-2)) = false := bne_eq_false_iff_eq.mpr c5
      clear c5
      replace H := Option.bind_eq_some_iff.mp H
      obtain ⟨t136, A60, H⟩ := H
      replace H : (if t136 = (-1) then (if t133 = true then (if t131 = (-20) then (if t132 = 10 then ((fixed_Clamp.f 9 5).bind fun t137 => (some (t137 == 5))) else (some false)) else (some false)) else (some false)) else (some false)) = some r := H
      have A6 := Aside0.mk A60
      clear A60
      by_cases c7 : t136 = (-1)
      · rw [if_pos c7] at H
        have c7b0 : (t136 == (-1)) = true := beq_iff_eq.mpr c7
        have c7b1 : (t136 != (-1)) = false := bne_eq_false_iff_eq.mpr c7
        clear c7
        by_cases c8 : t133 = true
        · subst c8
          have H1 : (if t131 = (-20) then (if t132 = 10 then ((fixed_Clamp.f 9 5).bind fun t137 => (some (t137 == 5))) else (some false)) else (some false)) = some r := by rw [if_pos rfl] at H; exact H
          clear H
          have H := H1
          clear H1
          by_cases c9 : t131 = (-20)
          · rw [if_pos c9] at H
            have c9b0 : (t131 == (-20)) = true := beq_iff_eq.mpr c9
            have c9b1 : (t131 != (-20)) = false := bne_eq_false_iff_eq.mpr c9
            clear c9
            by_cases c10 : t132 = 10
            · rw [if_pos c10] at H
              have c10b0 : (t132 == 10) = true := beq_iff_eq.mpr c10
              have c10b1 : (t132 != 10) = false := bne_eq_false_iff_eq.mpr c10
              clear c10
              replace H := Option.bind_eq_some_iff.mp H
              obtain ⟨t137, A110, H⟩ := H
              replace H : (some (t137 == 5)) = some r := H
              have A11 := Aside0.mk A110
              clear A110
              obtain rfl := Option.some.inj H
              go_enter Try.func15, Try.ntmps15
              go_wp2_with (first | ((with_reducible refine gate_dst (N := 5) rfl ?_); refine Kd.R_lit (Kd.int .i64) _ 3 ?hg (N := 5) ?hd (xs := ([1, (-2)] : List Int)) (inner := [.int .i64 1, .int .i64 (-2)]) (ok := fun _ => True) (okp := fun _ => True) ?hr ?hp (fun _ hk => hk) trivial (Below.refl _ _) (Nat.le_refl _) (by simp) ?_; (case hd => rfl); (case hg => rfl); (case hr => first | (go_simp; done) | (go_simp; rfl)); (case hp => exact (Reps.one (show Kd.M (Kd.int .i64) _ _ _ 1 [.int .i64 1] from rfl) (Reps.one (show Kd.M (Kd.int .i64) _ _ _ (-2) [.int .i64 (-2)] from rfl) (Reps.none _ _)))); intro v129 w12 ho13 hb hg_ hnew_; clear hg_ hnew_; (first | rw [← Ny128.out] at ho13 | (simp only [Int.reduceToNat] at ho13; rw [← Ny128.out] at ho13)); have n0_ := Aside0.mk (Kd.R_lower ho13 (below_size q11_)); have n1_ := Aside0.mk (below_step q11_ hb); clear HB; have HO130 := n0_; have HB := n1_; clear n0_ n1_; clear hb ho13; obtain ⟨Ao14, co14, eo14⟩ := Kd.R_slice HO130.out; subst eo14) | ((with_reducible refine gate_callee (f := 11) rfl ?_); refine goesL_ (some 6) rfl rfl Try.func11 (by kernel_rfl) rfl #[.slice Ao14 y128.length co14, .int .i64 0, .int .i64 10] rfl q10_ ?_; (with_reducible refine (fixed_Bounds.calls k _ _ y128 0 10 t131 t132 true _ ?side1 ?side2 A1.out).mono ?_); (case side1 => repeat (first | exact (Kd.R_reads' HO130.out).2.2 | (with_reducible refine Kd.C_alloc ?_ _) | (with_reducible refine Kd.C_drewN ?_ _) | (with_reducible refine Kd.C_drew ?_))); (case side2 => exact (Kd.R_reads' HO130.out).2.1); rintro e w15 ⟨rfl, hb⟩; refine ⟨_, rfl, ?_⟩; have n0_ := Aside0.mk (Kd.R_below (by (with_reducible repeat (first | apply Kd.R_alloc | apply Kd.R_drewN | apply Kd.R_drew)); exact HO130.out) hb); have n1_ := Aside0.mk (below_step q11_ hb); clear HO130; clear HB; have HO130 := n0_; have HB := n1_; clear n0_ n1_; (try clear hb); (try clear hb2); (try clear hk); (try clear hi)) | ((with_reducible refine gate_callee (f := 20) rfl ?_); refine goesL_ (some 10) rfl rfl Try.func20 (by kernel_rfl) rfl #[.int .i64 5, .int .i64 1] rfl q10_ ?_; (with_reducible refine (fixed_Shift.calls k 5 1 t134 _ A2.out).mono ?_); rintro e w' ⟨rfl, ⟨nd, rfl⟩⟩; refine ⟨_, rfl, ?_⟩) | (go_at_call 20; (with_reducible refine (fixed_Shift.calls k (-5) 1 t135 _ A4.out).mono ?_); rintro e w' ⟨rfl, ⟨nd, rfl⟩⟩) | (go_at_call 20; (with_reducible refine (fixed_Shift.calls k (-6) 2 t136 _ A6.out).mono ?_); rintro e w' ⟨rfl, ⟨nd, rfl⟩⟩) | (go_at_call 17; (with_reducible refine (fixed_Clamp.calls 9 5 t137 _ A11.out).mono ?_); rintro e w16 ⟨rfl, hb⟩; have n0_ := Aside0.mk (Kd.R_below (by (with_reducible repeat (first | apply Kd.R_alloc | apply Kd.R_drewN | apply Kd.R_drew)); exact HO130.out) hb); have n1_ := Aside0.mk (below_step q11_ hb); clear HO130; clear HB; have HO130 := n0_; have HB := n1_; clear n0_ n1_; (try clear hb); (try clear hb2); (try clear hk); (try clear hi)))
              go_ret
              exact ⟨q18_, q11_⟩
            · rw [if_neg c10] at H
              have c10b0 : (t132 == 10) = false := beq_eq_false_iff_ne.mpr c10
              have c10b1 : (t132 != 10) = true := bne_iff_ne.mpr c10
              exact absurd ((Option.some.inj H).trans HT.out) (by decide)
          · rw [if_neg c9] at H
            have c9b0 : (t131 == (-20)) = false := beq_eq_false_iff_ne.mpr c9
            have c9b1 : (t131 != (-20)) = true := bne_iff_ne.mpr c9
            exact absurd ((Option.some.inj H).trans HT.out) (by decide)
        · replace c8 := Bool.eq_false_iff.mpr c8
          subst c8
          have H1 : (some false) = some r := by rw [if_neg (show ¬ (false = true) by decide)] at H; exact H
          clear H
          have H := H1
          clear H1
          exact absurd ((Option.some.inj H).trans HT.out) (by decide)
      · rw [if_neg c7] at H
        have c7b0 : (t136 == (-1)) = false := beq_eq_false_iff_ne.mpr c7
        have c7b1 : (t136 != (-1)) = true := bne_iff_ne.mpr c7
        exact absurd ((Option.some.inj H).trans HT.out) (by decide)
    · rw [if_neg c5] at H
      have c5b0 : (t135 == (-2)) = false := beq_eq_false_iff_ne.mpr c5
      have c5b1 : (t135 != (-2)) = true := bne_iff_ne.mpr c5
      exact absurd ((Option.some.inj H).trans HT.out) (by decide)
  · rw [if_neg c3] at H
    have c3b0 : (t134 == 3) = false := beq_eq_false_iff_ne.mpr c3
    have c3b1 : (t134 != 3) = true := bne_iff_ne.mpr c3
    exact absurd ((Option.some.inj H).trans HT.out) (by decide)

end Go.Proofs.Ytepbjipmfchpnaa.PFixedBounds
