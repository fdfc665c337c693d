-- Written by a program of the session (wip/tools/pack.py): the printed texts, pruned; checked by Lean.
import Derived.Test.YtcfllciehmgikaaKSeparableCropsa
import Derived.Test.YtcfllciehmgikaaKSeparableCropsx0
import Derived.Test.YtcfllciehmgikaaKSeparableCropsx2
namespace Go.Proofs.Ytcfllciehmgikaa.PSeparableCrops
open Go.RowKit Go.Proofs.YtcfllciehmgikaaW.PrintWords Go.Proofs.YtcfllciehmgikaaW.PrintLast Go.Proofs.YtcfllciehmgikaaW.PrintMore
attribute [local go_sem] max2_int min2_int max_two min_two max_three min_three max_four min_four   -- for this text's walks alone
set_option linter.unusedVariables false
set_option linter.unusedSimpArgs false
def fixed_Bounds.l0 : Nat → List Int → Int → Int → Int → Int → Int → Int → Int → Option (Int × Int × Bool)
 | 0, _, _, _, _, _, _, _, _ => none
 | k + 1, l, lo, hi, i, a, b, c, d => if i < (l.length : Int) then (if 0 ≤ i then ((fixed_wide_add.f a b (mn (wrap64 ((rd l i) * lo)) (wrap64 ((rd l i) * hi)))).bind fun p => ((fixed_wide_add.f c d (mx (wrap64 ((rd l i) * lo)) (wrap64 ((rd l i) * hi)))).bind fun q => (fixed_Bounds.l0 k l lo hi (wrap64 (i + 1)) p.1 p.2 q.1 q.2))) else none) else ((fixed_wide_value.f a b).bind fun p => ((fixed_wide_value.f c d).bind fun q => (if p.2.1 = true then (if q.2.1 = true then (some (p.1, q.1, true)) else (some (0, 0, false))) else (some (0, 0, false)))))
def fixed_Bounds.f (k : Nat) (l0 : List Int) (a1 : Int) (a2 : Int) : Option (Int × Int × Bool) := (fixed_Weights.f k l0).bind fun t => (if t = 0 then (if a1 > a2 then (some (0, 0, false)) else (if a1 < (-68719476736) then (some (0, 0, false)) else (if a2 > 68719476736 then (some (0, 0, false)) else (fixed_Bounds.l0 k l0 a1 a2 0 0 0 0 0)))) else (some (0, 0, false)))
theorem fixed_Bounds.mono_l : ∀ k, (∀ y0 y1 y2 y3 y4 y5 y6 y7, LeO (fixed_Bounds.l0 k y0 y1 y2 y3 y4 y5 y6 y7) (fixed_Bounds.l0 (k + 1) y0 y1 y2 y3 y4 y5 y6 y7))
 | 0 => fun _ _ _ _ _ _ _ _ r h => by simp [fixed_Bounds.l0] at h
 | k + 1 => by
  have ih0 := fixed_Bounds.mono_l k; intro y0 y1 y2 y3 y4 y5 y6 y7; unfold fixed_Bounds.l0
  repeat' first
   | (with_reducible exact ih0 _ _ _ _ _ _ _ _)
   | (with_reducible exact LeO.refl _)
   | (with_reducible exact LeO.none _)
   | (with_reducible refine LeO.ite ?_ ?_)
   | (with_reducible refine LeO.bind ?_ (fun _ => ?_))
   | exact ih0 _ _ _ _ _ _ _ _
   | refine LeO.ite ?_ ?_
   | refine LeO.bind ?_ (fun _ => ?_)
theorem fixed_Bounds.mono : ∀ a0 a1 a2 k, LeO (fixed_Bounds.f k a0 a1 a2) (fixed_Bounds.f (k + 1) a0 a1 a2) := by
 intro a0 a1 a2 k; have ih0 := fixed_Bounds.mono_l k; unfold fixed_Bounds.f
 repeat' first
   | (with_reducible exact ih0 _ _ _ _ _ _ _ _)
   | (with_reducible exact fixed_Weights.mono _ _)
   | (with_reducible exact LeO.refl _)
   | (with_reducible exact LeO.none _)
   | (with_reducible refine LeO.ite ?_ ?_)
   | (with_reducible refine LeO.bind ?_ (fun _ => ?_))
   | exact ih0 _ _ _ _ _ _ _ _
   | refine LeO.ite ?_ ?_
   | refine LeO.bind ?_ (fun _ => ?_)
theorem fixed_Bounds.keepS {w0 W W' : World} {g g' : Nat} {f0 f1 : Int} (h : IsS75 w0 W g f0 f1) (hk : KeepBut W W' g' none) (hn : g ≠ g') : IsS75 w0 W' g f0 f1 := by
 obtain ⟨hb, hg⟩ := h; exact ⟨hk.blk hb hn (by simp), hg⟩
set_option maxHeartbeats 8000000 in
set_option maxRecDepth 100000 in
theorem fixed_Bounds.calls (k : Nat) (A0 : Option Addr) (c0 : Nat) (l0 : List Int) (a1 : Int) (a2 : Int) (r1 : Int) (r2 : Int) (r3 : Bool) (w : World) (hr0 : Kd.C (Kd.int .i64) w A0 l0.length l0) (hc0 : l0.length ≤ c0) (h : fixed_Bounds.f k l0 a1 a2 = some (r1, r2, r3)) :
  Calls Try.prog 30 #[.slice A0 l0.length c0, .int .i64 a1, .int .i64 a2] w fun e w' => e = .returned (.tuple #[.int .i64 r1, .int .i64 r2, .bool r3]) ∧ Below w.heap.size w w' := by
 have HR0 := am_ hr0; have HC0 := am_ hc0; clear hr0 hc0; have HB := am_ (Below.refl w.heap.size w); unfold fixed_Bounds.f at h; replace h := Option.bind_eq_some_iff.mp h; obtain ⟨t, A50, H⟩ := h; have A5 := am_ A50; clear A50
 by_cases c1 : t = 0
 ·rw [if_pos c1] at H
  have c1b0 : (t == 0) = true := beq_iff_eq.mpr c1; have c1b1 : (t != 0) = false := bne_eq_false_iff_eq.mpr c1; clear c1
  by_cases c2 : a1 > a2
  ·rw [if_pos c2] at H
   have c2b0 : decide (a2 < a1) = true := decide_eq_true c2; clear c2; simp only [Option.some.injEq, Prod.mk.injEq] at H; obtain ⟨rfl, rfl, rfl⟩ := H
   go_enter Try.func30, Try.ntmps30
   go_wp2_with (go_at_call 27; (with_reducible refine (fixed_Weights.calls k _ _ l0 t _ ?side1 ?side2 A5.out).mono ?_); (case side1 => exact HR0.out); (case side2 => exact HC0.out); rintro e w' ⟨rfl, ⟨nd, rfl⟩⟩)
   go_ret3
   exact ⟨rfl, q127_⟩
  ·rw [if_neg c2] at H
   have c2b0 : decide (a2 < a1) = false := decide_eq_false c2; clear c2
   by_cases c3 : a1 < (-68719476736)
   ·rw [if_pos c3] at H
    have c3b0 : decide (a1 < (-68719476736)) = true := decide_eq_true c3; clear c3; simp only [Option.some.injEq, Prod.mk.injEq] at H; obtain ⟨rfl, rfl, rfl⟩ := H
    go_enter Try.func30, Try.ntmps30
    go_wp2_with (go_at_call 27; (with_reducible refine (fixed_Weights.calls k _ _ l0 t _ ?side1 ?side2 A5.out).mono ?_); (case side1 => exact HR0.out); (case side2 => exact HC0.out); rintro e w' ⟨rfl, ⟨nd, rfl⟩⟩)
    go_ret3
    exact ⟨rfl, q127_⟩
   ·rw [if_neg c3] at H
    have c3b0 : decide (a1 < (-68719476736)) = false := decide_eq_false c3; clear c3
    by_cases c4 : a2 > 68719476736
    ·rw [if_pos c4] at H
     have c4b0 : decide (68719476736 < a2) = true := decide_eq_true c4; clear c4; simp only [Option.some.injEq, Prod.mk.injEq] at H; obtain ⟨rfl, rfl, rfl⟩ := H
     go_enter Try.func30, Try.ntmps30
     go_wp2_with (go_at_call 27; (with_reducible refine (fixed_Weights.calls k _ _ l0 t _ ?side1 ?side2 A5.out).mono ?_); (case side1 => exact HR0.out); (case side2 => exact HC0.out); rintro e w' ⟨rfl, ⟨nd, rfl⟩⟩)
     go_ret3
     exact ⟨rfl, q127_⟩
    ·rw [if_neg c4] at H
     have c4b0 : decide (68719476736 < a2) = false := decide_eq_false c4; clear c4; have H' := am_ H; clear H; have hu75 := Try.underlying75
     go_enter Try.func30, Try.ntmps30
     go_wp2_with (go_at_call 27; (with_reducible refine (fixed_Weights.calls k _ _ l0 t _ ?side1 ?side2 A5.out).mono ?_); (case side1 => exact HR0.out); (case side2 => exact HC0.out); rintro e w' ⟨rfl, ⟨nd, rfl⟩⟩)
     go_loopg [37] k (fun kq v37 w' => ∃ (i a b c d : Int), v37 = .int .i64 i ∧ Aside0 (fixed_Bounds.l0 kq l0 a1 a2 i a b c d = some (r1, r2, r3)) ∧ Aside0 (kq ≤ k) ∧ Aside0 (IsS75 w w' w.heap.size a b) ∧ Aside0 (IsS75 w w' (w.heap.size + 1) c d) ∧ Aside0 (Below w.heap.size w w'))
     case atStart =>
      refine ⟨0, 0, 0, 0, 0, rfl, H', ⟨Nat.le_refl _⟩, ⟨?_⟩, ⟨?_⟩, ⟨?_⟩⟩
      ·repeat (first | exact IsS75.new w (w.drewN nd) 0 0 (by repeat (first | exact HB.out | apply pw_below_drewN)) | apply IsS75.alloc | apply IsS75.drewN | apply IsS75.drew)
      ·refine (?_ : IsS75 w _ (((w.drewN nd).alloc (Obj.cells #[Value.int IntKind.i64 0, Value.int IntKind.i64 0] 75)).heap.size) 0 0) |> fun h => by simpa using h
       exact IsS75.new w _ 0 0 (by repeat (first | exact HB.out | apply below_alloc | apply pw_below_drewN))
      ·repeat (first | exact HB.out | apply below_alloc | apply pw_below_drewN | apply below_drew1)
     case round =>
      clear H'; obtain ⟨i, a, b, c, d, rfl, HA, HK1, S10, S20, HB⟩ := hrel; cases gk with
      | zero => exact absurd HA.out (by simp [fixed_Bounds.l0])
      | succ k1 =>
       have H := HA.out; clear HA; simp only [fixed_Bounds.l0] at H
       by_cases c5 : i < (l0.length : Int)
       ·rw [if_pos c5] at H
        by_cases c6 : 0 ≤ i
        ·rw [if_pos c6] at H
         have c5b0 : decide (i < (l0.length : Int)) = true := decide_eq_true c5; have c6b0 : decide (0 ≤ i) = true := decide_eq_true c6; replace H := Option.bind_eq_some_iff.mp H; obtain ⟨⟨p1, p2⟩, A60, H⟩ := H; replace H := Option.bind_eq_some_iff.mp H; obtain ⟨⟨q1, q2⟩, A70, H⟩ := H; obtain ⟨jn, hjn⟩ : ∃ j_ : Int, (mn (wrap64 ((rd l0 i) * a1)) (wrap64 ((rd l0 i) * a2))) = j_ := ⟨_, rfl⟩; rw [hjn] at A60; have hjn_ : (if (wrap64 ((rd l0 i) * a2)) < (wrap64 ((rd l0 i) * a1)) then (wrap64 ((rd l0 i) * a2)) else (wrap64 ((rd l0 i) * a1))) = jn := hjn; obtain ⟨jx, hjx⟩ : ∃ j_ : Int, (mx (wrap64 ((rd l0 i) * a1)) (wrap64 ((rd l0 i) * a2))) = j_ := ⟨_, rfl⟩; rw [hjx] at A70; have hjx_ : (if (wrap64 ((rd l0 i) * a1)) < (wrap64 ((rd l0 i) * a2)) then (wrap64 ((rd l0 i) * a2)) else (wrap64 ((rd l0 i) * a1))) = jx := hjx; have A6 := am_ A60; have A7 := am_ A70; have H' := am_ H; clear A60 A70 H c5 c6; have p139 : 0 ≤ (i : Int) := of_decide_eq_true q194_; have q139 : i < (l0.length : Int) := of_decide_eq_true q194_; obtain ⟨ad139, e139, hx139_0⟩ := Kd.at_int HR0.out i p139 q139; cases e139; replace hx139_0 := (HB.out.cell (World.block_lt_of_cell? w _ hx139_0)).trans hx139_0; replace p139 := eq_true p139; replace q139 := eq_true q139
         go_wp2_with (first | ((with_reducible refine gate_callee (f := 60) rfl ?_); refine goesL_ (some 50) rfl rfl Try.func60 (by kernel_rfl) rfl #[.pointer (some ⟨w.heap.size, 0, none⟩), .int .i64 jn] rfl q190_ ?_; (with_reducible refine (fixed_wide_add.calls w.heap.size a b jn p1 p2 w _ ?side1 ?side2 A6.out).mono ?_); (case side1 => exact S10.out); (case side2 => exact HB.out); rintro e w7 ⟨rfl, hi, hb, hk⟩; refine ⟨_, rfl, ?_⟩; have n1_ := am_ hi; have n2_ := am_ (fixed_Bounds.keepS S20.out hk (Nat.succ_ne_self _)); have n3_ := am_ hb; clear S10 S20 HB; have S10 := n1_; have S20 := n2_; have HB := n3_; clear n1_ n2_ n3_ hi hb hk) | ((with_reducible refine gate_callee (f := 60) rfl ?_); refine goesL_ (some 54) rfl rfl Try.func60 (by kernel_rfl) rfl #[.pointer (some ⟨w.heap.size + 1, 0, none⟩), .int .i64 jx] rfl q190_ ?_; (with_reducible refine (fixed_wide_add.calls (w.heap.size + 1) c d jx q1 q2 w _ ?side1 ?side2 A7.out).mono ?_); (case side1 => exact S20.out); (case side2 => exact HB.out); rintro e w8 ⟨rfl, hi, hb, hk⟩; refine ⟨_, rfl, ?_⟩; have n1_ := am_ hi; have n2_ := am_ (fixed_Bounds.keepS S10.out hk (Nat.ne_of_lt (Nat.lt_succ_self _))); have n3_ := am_ hb; clear S10 S20 HB; have S20 := n1_; have S10 := n2_; have HB := n3_; clear n1_ n2_ n3_ hi hb hk))
         go_roundg k1
         case measure => have := HK1.out; omega
         case rel => exact ⟨(wrap64 (i + 1)), p1, p2, q1, q2, rfl, H', ⟨by have := HK1.out; omega⟩, S10, S20, HB⟩
        ·rw [if_neg c6] at H
         exact absurd H (by simp)
       ·rw [if_neg c5] at H
        have c5b0 : decide (i < (l0.length : Int)) = false := decide_eq_false c5; clear c5; replace H := Option.bind_eq_some_iff.mp H; obtain ⟨⟨p1, p2, p3, p4⟩, A60, H⟩ := H; replace H := Option.bind_eq_some_iff.mp H; obtain ⟨⟨q1, q2, q3, q4⟩, A70, H⟩ := H; replace H : (if p2 = true then (if q2 = true then (some (p1, q1, true)) else (some (0, 0, false))) else (some (0, 0, false))) = some (r1, r2, r3) := H; have A6 := am_ A60; have A7 := am_ A70; clear A60 A70
        rcases p2 with _ | _ <;> rcases q2 with _ | _
        all_goals
         simp only [Option.some.injEq, Prod.mk.injEq, if_true, if_false, Bool.false_eq_true, eq_self_iff_true] at H; obtain ⟨rfl, rfl, rfl⟩ := H
         go_wp2_with (first | ((with_reducible refine gate_callee (f := 61) rfl ?_); refine goesL_ (some 57) rfl rfl Try.func61 (by kernel_rfl) rfl #[.pointer (some ⟨w.heap.size, 0, none⟩)] rfl q190_ ?_; (with_reducible refine (fixed_wide_value.calls w.heap.size a b _ _ _ _ w _ ?side1 ?side2 A6.out).mono ?_); (case side1 => exact S10.out); (case side2 => exact HB.out); rintro e w7 ⟨rfl, hi, hb, hk⟩; refine ⟨_, rfl, ?_⟩; have n2_ := am_ (fixed_Bounds.keepS S20.out hk (Nat.succ_ne_self _)); have n3_ := am_ hb; clear S10 S20 HB; have S20 := n2_; have HB := n3_; clear n2_ n3_ hi hb hk) | ((with_reducible refine gate_callee (f := 61) rfl ?_); refine goesL_ (some 61) rfl rfl Try.func61 (by kernel_rfl) rfl #[.pointer (some ⟨w.heap.size + 1, 0, none⟩)] rfl q190_ ?_; (with_reducible refine (fixed_wide_value.calls (w.heap.size + 1) c d _ _ _ _ w _ ?side1 ?side2 A7.out).mono ?_); (case side1 => exact S20.out); (case side2 => exact HB.out); rintro e w8 ⟨rfl, hi, hb, hk⟩; refine ⟨_, rfl, ?_⟩; have n3_ := am_ hb; clear S20 HB; have HB := n3_; clear n3_ hi hb hk))
         go_ret3
         exact ⟨rfl, q127_⟩
 ·rw [if_neg c1] at H
  have c1b0 : (t == 0) = false := beq_eq_false_iff_ne.mpr c1; have c1b1 : (t != 0) = true := bne_iff_ne.mpr c1; clear c1; simp only [Option.some.injEq, Prod.mk.injEq] at H; obtain ⟨rfl, rfl, rfl⟩ := H
  go_enter Try.func30, Try.ntmps30
  go_wp2_with (go_at_call 27; (with_reducible refine (fixed_Weights.calls k _ _ l0 t _ ?side1 ?side2 A5.out).mono ?_); (case side1 => exact HR0.out); (case side2 => exact HC0.out); rintro e w' ⟨rfl, ⟨nd, rfl⟩⟩)
  go_ret3
  exact ⟨rfl, q127_⟩



def fixed_Shift.j0 : Nat → Int → Int → Bool → Option (Int)
 | 0, _, _, _ => none
 | k + 1, x0, x1, x5 => if x5 = true then (some 0) else (if x1 = 0 then (some x0) else (if 0 ≤ (wrap64 (x1 - 1)) then (if 0 ≤ x1 then (some (shr .i64 (wrap64 (x0 + (shl .i64 1 (wrap64 (x1 - 1))))) x1)) else (none)) else (none)))
def fixed_Shift.f (k : Nat) (a0 : Int) (a1 : Int) : Option (Int) := (fixed_sum.f a0).bind fun t119 => (if t119 = true then (if a1 < 0 then (fixed_Shift.j0 k a0 a1 true) else (fixed_Shift.j0 k a0 a1 (decide (a1 > 24)))) else (fixed_Shift.j0 k a0 a1 true))
theorem fixed_Shift.mono_l : ∀ k, (∀ y0 y1 y2, LeO (fixed_Shift.j0 k y0 y1 y2) (fixed_Shift.j0 (k + 1) y0 y1 y2))
 | 0 => fun _ _ _ r h => by simp [fixed_Shift.j0] at h
 | k + 1 => by
  have ih0 := fixed_Shift.mono_l k
  ·intro y0 y1 y2
   unfold fixed_Shift.j0
   repeat' first
   | (with_reducible exact ih0 _ _ _)
   | (with_reducible exact LeO.refl _)
   | (with_reducible exact LeO.none _)
   | (with_reducible refine LeO.ite ?_ ?_)
   | (with_reducible refine LeO.bind ?_ (fun _ => ?_))
   | exact ih0 _ _ _
   | exact LeO.none _
   | refine LeO.ite ?_ ?_
   | refine LeO.bind ?_ (fun _ => ?_)
theorem fixed_Shift.mono : ∀ a0 a1 k, LeO (fixed_Shift.f k a0 a1) (fixed_Shift.f (k + 1) a0 a1) := by
 intro a0 a1 k; have ih0 := fixed_Shift.mono_l k; unfold fixed_Shift.f
 repeat' first
   | (with_reducible exact ih0 _ _ _)
   | (with_reducible exact LeO.refl _)
   | (with_reducible exact LeO.none _)
   | (with_reducible refine LeO.ite ?_ ?_)
   | (with_reducible refine LeO.bind ?_ (fun _ => ?_))
   | exact ih0 _ _ _
   | exact LeO.none _
   | refine LeO.ite ?_ ?_
   | refine LeO.bind ?_ (fun _ => ?_)
set_option maxHeartbeats 8000000 in
set_option maxRecDepth 100000 in
theorem fixed_Shift.calls (k : Nat) (a0 : Int) (a1 : Int) (r : Int) (w : World) (h : fixed_Shift.f k a0 a1 = some r) :
  Calls Try.prog 45 #[.int .i64 a0, .int .i64 a1] w fun e w' => e = .returned (.int .i64 r) ∧ Drawn0 w w' := by
 have H : ((fixed_sum.f a0).bind fun t119 => (if t119 = true then (if a1 < 0 then (fixed_Shift.j0 k a0 a1 true) else (fixed_Shift.j0 k a0 a1 (decide (a1 > 24)))) else (fixed_Shift.j0 k a0 a1 true))) = some r := h; clear h; have HC3 := am_ H; clear H
 go_enter Try.func45, Try.ntmps45
 go_upto_region 1 with (fail)
 go_cut [5] (fun v5 wc => ∃ (kq : Nat) (x5_2 : Bool), v5 = .bool x5_2 ∧ Aside0 (fixed_Shift.j0 kq a0 a1 x5_2 = some r) ∧ Aside0 (kq ≤ k) ∧ Drawn0 w wc)
 case first =>
  have H := HC3.out; clear HC3; replace H := Option.bind_eq_some_iff.mp H; obtain ⟨t119, A40, H⟩ := H; replace H : (if t119 = true then (if a1 < 0 then (fixed_Shift.j0 k a0 a1 true) else (fixed_Shift.j0 k a0 a1 (decide (a1 > 24)))) else (fixed_Shift.j0 k a0 a1 true)) = some r := H; have A4 := am_ A40; clear A40
  by_cases c5 : t119 = true
  ·subst c5
   have H1 : (if a1 < 0 then (fixed_Shift.j0 k a0 a1 true) else (fixed_Shift.j0 k a0 a1 (decide (a1 > 24)))) = some r := by rw [if_pos rfl] at H; exact H
   clear H; have H := H1; clear H1
   by_cases c6 : a1 < 0
   ·rw [if_pos c6] at H
    have c6b0 : decide (a1 < 0) = true := decide_eq_true c6; clear c6; (first | rw [c6b0] | (simp only [i64_w, i32_w]; rw [c6b0]) | skip); have H' := am_ H; clear H
    go_wp2_with (first | ((with_reducible refine gate_callee (f := 69) rfl ?_); refine goesL_ (some 7) rfl rfl Try.func69 (by kernel_rfl) rfl #[.int .i64 a0] rfl q123_ ?_; (with_reducible refine (fixed_sum.calls a0 true _ A4.out).mono ?_); rintro e w' ⟨rfl, ⟨nd, rfl⟩⟩; refine ⟨_, rfl, ?_⟩))
    go_meet
    case rel => exact ⟨_, (true), q195_, H', ⟨by first | omega | exact Nat.le_refl _⟩, q192_⟩
   ·rw [if_neg c6] at H
    have c6b0 : decide (a1 < 0) = false := decide_eq_false c6; clear c6; (first | rw [c6b0] | (simp only [i64_w, i32_w]; rw [c6b0]) | skip); have H' := am_ H; clear H
    go_wp2_with (first | ((with_reducible refine gate_callee (f := 69) rfl ?_); refine goesL_ (some 7) rfl rfl Try.func69 (by kernel_rfl) rfl #[.int .i64 a0] rfl q123_ ?_; (with_reducible refine (fixed_sum.calls a0 true _ A4.out).mono ?_); rintro e w' ⟨rfl, ⟨nd, rfl⟩⟩; refine ⟨_, rfl, ?_⟩))
    go_meet
    case rel => exact ⟨_, (decide (a1 > 24)), q195_, H', ⟨by first | omega | exact Nat.le_refl _⟩, q192_⟩
  ·replace c5 := Bool.eq_false_iff.mpr c5
   subst c5; have H1 : (fixed_Shift.j0 k a0 a1 true) = some r := by rw [if_neg (show ¬ (false = true) by decide)] at H; exact H
   clear H; have H := H1; clear H1; have H' := am_ H; clear H
   go_wp2_with (first | ((with_reducible refine gate_callee (f := 69) rfl ?_); refine goesL_ (some 7) rfl rfl Try.func69 (by kernel_rfl) rfl #[.int .i64 a0] rfl q123_ ?_; (with_reducible refine (fixed_sum.calls a0 false _ A4.out).mono ?_); rintro e w' ⟨rfl, ⟨nd, rfl⟩⟩; refine ⟨_, rfl, ?_⟩))
   go_meet
   case rel => exact ⟨_, (true), q195_, H', ⟨by first | omega | exact Nat.le_refl _⟩, q192_⟩
 case rest =>
  clear HC3; (try clear p2); (try clear c4); (try clear c5); (try clear c6); (try clear c6b0); obtain ⟨kq, x5_2, rfl, HA, HJ2, ⟨mc2, rfl⟩⟩ := hcut; cases kq with
  | zero => exact absurd HA.out (by simp [fixed_Shift.j0])
  | succ kj2 =>
   have H := HA.out; clear HA; simp only [fixed_Shift.j0] at H
   by_cases c7 : x5_2 = true
   ·subst c7
    have H1 : (some 0) = some r := by rw [if_pos rfl] at H; exact H
    clear H; have H := H1; clear H1; obtain rfl := Option.some.inj H
    go_wp2
    go_ret
    exact ⟨q195_, q192_⟩
   ·replace c7 := Bool.eq_false_iff.mpr c7
    subst c7; have H1 : (if a1 = 0 then (some a0) else (if 0 ≤ (wrap64 (a1 - 1)) then (if 0 ≤ a1 then (some (shr .i64 (wrap64 (a0 + (shl .i64 1 (wrap64 (a1 - 1))))) a1)) else (none)) else (none))) = some r := by rw [if_neg (show ¬ (false = true) by decide)] at H; exact H
    clear H; have H := H1; clear H1
    by_cases c8 : a1 = 0
    ·rw [if_pos c8] at H
     have c8b0 : (a1 == 0) = true := beq_iff_eq.mpr c8; have c8b1 : (a1 != 0) = false := bne_eq_false_iff_eq.mpr c8; clear c8; obtain rfl := Option.some.inj H
     go_wp2
     go_ret
     exact ⟨q195_, q192_⟩
    ·rw [if_neg c8] at H
     have c8b0 : (a1 == 0) = false := beq_eq_false_iff_ne.mpr c8; have c8b1 : (a1 != 0) = true := bne_iff_ne.mpr c8; obtain ⟨ji9, hji9⟩ : ∃ j_ : Int, (wrap64 (a1 - 1)) = j_ := ⟨_, rfl⟩; replace H : (if 0 ≤ (ji9) then (if 0 ≤ a1 then (some (shr .i64 (wrap64 (a0 + (shl .i64 1 (ji9)))) a1)) else (none)) else (none)) = some r := by first | (rw [hji9] at H; exact H) | (simp only [hji9] at H ⊢; exact H)
     have hji9w : (IntKind.i64.wrap (a1 - 1)) = ji9 := (i64_w _).trans hji9
     by_cases c10 : 0 ≤ (ji9)
     ·rw [if_pos c10] at H
      have c10b0 := eq_true c10; have c10b1 : decide (0 ≤ (ji9)) = true := decide_eq_true c10; clear c10; obtain ⟨ji11, hji11⟩ : ∃ j_ : Int, (shl .i64 1 (ji9)) = j_ := ⟨_, rfl⟩; replace H : (if 0 ≤ a1 then (some (shr .i64 (wrap64 (a0 + (ji11))) a1)) else (none)) = some r := by first | (rw [hji11] at H; exact H) | (simp only [hji11] at H ⊢; exact H)
      have hji11_ : (IntKind.i64.wrap (1 * 2 ^ min (ji9).toNat 64)) = ji11 := hji11; have hji11z : (ji9) ≤ 64 → (IntKind.i64.wrap (1 * 2 ^ (ji9).toNat)) = ji11 := shl_small hji11; have hji11u : (IntKind.i64.wrap (2 ^ min (ji9).toNat 64)) = ji11 := by have h_ := hji11_; rw [Int.one_mul] at h_; exact h_
      have hji11v : (ji9) ≤ 64 → (IntKind.i64.wrap (2 ^ (ji9).toNat)) = ji11 := fun hle_ => by have h_ := hji11z hle_; rw [Int.one_mul] at h_; exact h_
      have hji11y : (wrap64 (1 * 2 ^ min (ji9).toNat 64)) = ji11 := (i64_w _).symm.trans hji11_; have hji11x : (ji9) ≤ 64 → (wrap64 (1 * 2 ^ (ji9).toNat)) = ji11 := fun h_ => (i64_w _).symm.trans (hji11z h_)
      by_cases c12 : 0 ≤ a1
      ·rw [if_pos c12] at H
       have c12b0 := eq_true c12; have c12b1 : decide (0 ≤ a1) = true := decide_eq_true c12; clear c12; obtain ⟨ji13, hji13⟩ : ∃ j_ : Int, (shr .i64 (wrap64 (a0 + (ji11))) a1) = j_ := ⟨_, rfl⟩; replace H : (some ji13) = some r := by first | (rw [hji13] at H; exact H) | (simp only [hji13] at H ⊢; exact H)
       have hji13_ : ((wrap64 (a0 + (ji11))) / 2 ^ min a1.toNat 64) = ji13 := hji13; have hji13z : a1 ≤ 64 → ((wrap64 (a0 + (ji11))) / 2 ^ a1.toNat) = ji13 := shr_small hji13; obtain rfl := Option.some.inj H
       go_wp2
       go_ret
       exact ⟨by first | rfl | (simp; done) | (simp only [← hji9, ← hji11, ← hji13] <;> (first | rfl | simp)) | (simp [*]; done), q192_⟩
      ·rw [if_neg c12] at H
       exact absurd H (by simp)
     ·rw [if_neg c10] at H
      exact absurd H (by simp)


def fixed_Span.f (k : Nat) (a0 : Int) (a1 : Int) (a2 : Int) : Option (Int × Int) := (fixed_Shift.f k a0 a2).bind fun t120 => ((fixed_Shift.f k a1 a2).bind fun t121 => (some (t120, t121)))
theorem fixed_Span.mono : ∀ a0 a1 a2 k, LeO (fixed_Span.f k a0 a1 a2) (fixed_Span.f (k + 1) a0 a1 a2) := by
 intro a0 a1 a2 k; unfold fixed_Span.f
 repeat' first
   | (with_reducible exact fixed_Shift.mono _ _ _)
   | (with_reducible exact LeO.refl _)
   | (with_reducible exact LeO.none _)
   | (with_reducible refine LeO.ite ?_ ?_)
   | (with_reducible refine LeO.bind ?_ (fun _ => ?_))
   | exact fixed_Shift.mono _ _ _
   | exact LeO.none _
   | refine LeO.ite ?_ ?_
   | refine LeO.bind ?_ (fun _ => ?_)
set_option maxHeartbeats 8000000 in
set_option maxRecDepth 100000 in
theorem fixed_Span.calls (k : Nat) (a0 : Int) (a1 : Int) (a2 : Int) (r1 : Int) (r2 : Int) (w : World) (h : fixed_Span.f k a0 a1 a2 = some (r1, r2)) :
  Calls Try.prog 31 #[.int .i64 a0, .int .i64 a1, .int .i64 a2] w fun e w' => e = .returned (.tuple #[.int .i64 r1, .int .i64 r2]) ∧ Drawn0 w w' := by
 have H : ((fixed_Shift.f k a0 a2).bind fun t120 => ((fixed_Shift.f k a1 a2).bind fun t121 => (some (t120, t121)))) = some (r1, r2) := h; clear h; replace H := Option.bind_eq_some_iff.mp H; obtain ⟨t120, A40, H⟩ := H; replace H : ((fixed_Shift.f k a1 a2).bind fun t121 => (some (t120, t121))) = some (r1, r2) := H; have A4 := am_ A40; clear A40; replace H := Option.bind_eq_some_iff.mp H; obtain ⟨t121, A50, H⟩ := H; replace H : (some (t120, t121)) = some (r1, r2) := H; have A5 := am_ A50; clear A50; simp only [Option.some.injEq, Prod.mk.injEq] at H; obtain ⟨rfl, rfl⟩ := H
 go_enter Try.func31, Try.ntmps31
 go_wp2_with (first | ((with_reducible refine gate_callee (f := 45) rfl ?_); refine goesL_ (some 10) rfl rfl Try.func45 (by kernel_rfl) rfl #[.int .i64 a0, .int .i64 a2] rfl q123_ ?_; (with_reducible refine (fixed_Shift.calls k a0 a2 t120 _ A4.out).mono ?_); rintro e w' ⟨rfl, ⟨nd, rfl⟩⟩; refine ⟨_, rfl, ?_⟩) | ((with_reducible refine gate_callee (f := 45) rfl ?_); refine goesL_ (some 13) rfl rfl Try.func45 (by kernel_rfl) rfl #[.int .i64 a1, .int .i64 a2] rfl q123_ ?_; (with_reducible refine (fixed_Shift.calls k a1 a2 t121 _ A5.out).mono ?_); rintro e w' ⟨rfl, ⟨nd, rfl⟩⟩; refine ⟨_, rfl, ?_⟩))
 go_ret2
 exact ⟨q195_, q192_⟩


mutual
def separable_Check.j0 : Nat → Int → List Int → List Int → Int → Int → Int → Bool → Option (Int)
 | 0, _, _, _, _, _, _, _ => none
 | k + 1, x0, x1, x2, x3, x4, x5, x33 => if x33 = true then (some 9) else ((fixed_Weights.f k x1).bind fun t122 => (if t122 = 0 then ((fixed_Weights.f k x2).bind fun t123 => (if t123 = 0 then ((separable_shiftable.f x3).bind fun t124 => (if t124 = true then ((separable_shiftable.f x4).bind fun t125 => (separable_Check.j1 k x0 x1 x2 x3 x5 (!t125))) else (separable_Check.j1 k x0 x1 x2 x3 x5 true))) else (separable_Check.j1 k x0 x1 x2 x3 x5 true))) else (separable_Check.j1 k x0 x1 x2 x3 x5 true)))
def separable_Check.j1 : Nat → Int → List Int → List Int → Int → Int → Bool → Option (Int)
 | 0, _, _, _, _, _, _ => none
 | k + 1, x0, x1, x2, x3, x5, x51 => if x51 = true then (some 10) else ((separable_value.f x0).bind fun t126 => (if t126 = true then ((separable_value.f x5).bind fun t127 => (separable_Check.j2 k x0 x1 x2 x3 (!t127))) else (separable_Check.j2 k x0 x1 x2 x3 true)))
def separable_Check.j2 : Nat → Int → List Int → List Int → Int → Bool → Option (Int)
 | 0, _, _, _, _, _ => none
 | k + 1, x0, x1, x2, x3, x59 => if x59 = true then (some 2) else ((fixed_Bounds.f k x1 0 x0).bind fun bt128 => (if bt128.2.2 = true then ((fixed_Span.f k bt128.1 bt128.2.1 x3).bind fun bt131 => ((fixed_Bounds.f k x2 bt131.1 bt131.2).bind fun bt133 => (if bt133.2.2 = true then (some 0) else (some 11)))) else (some 11)))
end
def separable_Check.f (k : Nat) (a0 : Int) (l1 : List Int) (l2 : List Int) (a3 : Int) (a4 : Int) (a5 : Int) : Option (Int) := if (l1.length : Int) < 1 then (separable_Check.j0 k a0 l1 l2 a3 a4 a5 true) else (if (l1.length : Int) > 9 then (separable_Check.j0 k a0 l1 l2 a3 a4 a5 true) else (if (l2.length : Int) < 1 then (separable_Check.j0 k a0 l1 l2 a3 a4 a5 true) else (separable_Check.j0 k a0 l1 l2 a3 a4 a5 (decide ((l2.length : Int) > 9)))))
theorem separable_Check.mono_l : ∀ k, (∀ y0 y1 y2 y3 y4 y5 y6, LeO (separable_Check.j0 k y0 y1 y2 y3 y4 y5 y6) (separable_Check.j0 (k + 1) y0 y1 y2 y3 y4 y5 y6)) ∧ (∀ y0 y1 y2 y3 y4 y5, LeO (separable_Check.j1 k y0 y1 y2 y3 y4 y5) (separable_Check.j1 (k + 1) y0 y1 y2 y3 y4 y5)) ∧ (∀ y0 y1 y2 y3 y4, LeO (separable_Check.j2 k y0 y1 y2 y3 y4) (separable_Check.j2 (k + 1) y0 y1 y2 y3 y4))
 | 0 => ⟨fun _ _ _ _ _ _ _ r h => by simp [separable_Check.j0] at h, fun _ _ _ _ _ _ r h => by simp [separable_Check.j1] at h, fun _ _ _ _ _ r h => by simp [separable_Check.j2] at h⟩
 | k + 1 => by
  obtain ⟨ih0, ih1, ih2⟩ := separable_Check.mono_l k; refine ⟨?_, ?_, ?_⟩
  ·intro y0 y1 y2 y3 y4 y5 y6
   unfold separable_Check.j0
   repeat' first
   | (with_reducible exact ih0 _ _ _ _ _ _ _)
   | (with_reducible exact ih1 _ _ _ _ _ _)
   | (with_reducible exact ih2 _ _ _ _ _)
   | (with_reducible exact fixed_Bounds.mono _ _ _ _)
   | (with_reducible exact fixed_Span.mono _ _ _ _)
   | (with_reducible exact fixed_Weights.mono _ _)
   | (with_reducible exact LeO.refl _)
   | (with_reducible exact LeO.none _)
   | (with_reducible refine LeO.ite ?_ ?_)
   | (with_reducible refine LeO.bind ?_ (fun _ => ?_))
   | exact ih0 _ _ _ _ _ _ _
   | exact ih1 _ _ _ _ _ _
   | exact ih2 _ _ _ _ _
   | exact fixed_Bounds.mono _ _ _ _
   | exact fixed_Span.mono _ _ _ _
   | exact fixed_Weights.mono _ _
   | exact LeO.none _
   | refine LeO.ite ?_ ?_
   | refine LeO.bind ?_ (fun _ => ?_)
  ·intro y0 y1 y2 y3 y4 y5
   unfold separable_Check.j1
   repeat' first
   | (with_reducible exact ih0 _ _ _ _ _ _ _)
   | (with_reducible exact ih1 _ _ _ _ _ _)
   | (with_reducible exact ih2 _ _ _ _ _)
   | (with_reducible exact fixed_Bounds.mono _ _ _ _)
   | (with_reducible exact fixed_Span.mono _ _ _ _)
   | (with_reducible exact fixed_Weights.mono _ _)
   | (with_reducible exact LeO.refl _)
   | (with_reducible exact LeO.none _)
   | (with_reducible refine LeO.ite ?_ ?_)
   | (with_reducible refine LeO.bind ?_ (fun _ => ?_))
   | exact ih0 _ _ _ _ _ _ _
   | exact ih1 _ _ _ _ _ _
   | exact ih2 _ _ _ _ _
   | exact fixed_Bounds.mono _ _ _ _
   | exact fixed_Span.mono _ _ _ _
   | exact fixed_Weights.mono _ _
   | exact LeO.none _
   | refine LeO.ite ?_ ?_
   | refine LeO.bind ?_ (fun _ => ?_)
  ·intro y0 y1 y2 y3 y4
   unfold separable_Check.j2
   repeat' first
   | (with_reducible exact ih0 _ _ _ _ _ _ _)
   | (with_reducible exact ih1 _ _ _ _ _ _)
   | (with_reducible exact ih2 _ _ _ _ _)
   | (with_reducible exact fixed_Bounds.mono _ _ _ _)
   | (with_reducible exact fixed_Span.mono _ _ _ _)
   | (with_reducible exact fixed_Weights.mono _ _)
   | (with_reducible exact LeO.refl _)
   | (with_reducible exact LeO.none _)
   | (with_reducible refine LeO.ite ?_ ?_)
   | (with_reducible refine LeO.bind ?_ (fun _ => ?_))
   | exact ih0 _ _ _ _ _ _ _
   | exact ih1 _ _ _ _ _ _
   | exact ih2 _ _ _ _ _
   | exact fixed_Bounds.mono _ _ _ _
   | exact fixed_Span.mono _ _ _ _
   | exact fixed_Weights.mono _ _
   | exact LeO.none _
   | refine LeO.ite ?_ ?_
   | refine LeO.bind ?_ (fun _ => ?_)
theorem separable_Check.mono : ∀ a0 a1 a2 a3 a4 a5 k, LeO (separable_Check.f k a0 a1 a2 a3 a4 a5) (separable_Check.f (k + 1) a0 a1 a2 a3 a4 a5) := by
 intro a0 a1 a2 a3 a4 a5 k; obtain ⟨ih0, ih1, ih2⟩ := separable_Check.mono_l k; unfold separable_Check.f
 repeat' first
   | (with_reducible exact ih0 _ _ _ _ _ _ _)
   | (with_reducible exact ih1 _ _ _ _ _ _)
   | (with_reducible exact ih2 _ _ _ _ _)
   | (with_reducible exact fixed_Bounds.mono _ _ _ _)
   | (with_reducible exact fixed_Span.mono _ _ _ _)
   | (with_reducible exact fixed_Weights.mono _ _)
   | (with_reducible exact LeO.refl _)
   | (with_reducible exact LeO.none _)
   | (with_reducible refine LeO.ite ?_ ?_)
   | (with_reducible refine LeO.bind ?_ (fun _ => ?_))
   | exact ih0 _ _ _ _ _ _ _
   | exact ih1 _ _ _ _ _ _
   | exact ih2 _ _ _ _ _
   | exact fixed_Bounds.mono _ _ _ _
   | exact fixed_Span.mono _ _ _ _
   | exact fixed_Weights.mono _ _
   | exact LeO.none _
   | refine LeO.ite ?_ ?_
   | refine LeO.bind ?_ (fun _ => ?_)
set_option maxHeartbeats 8000000 in
set_option maxRecDepth 100000 in
theorem separable_Check.calls (k : Nat) (a0 : Int) (A1 : Option Addr) (c1 : Nat) (l1 : List Int) (A2 : Option Addr) (c2 : Nat) (l2 : List Int) (a3 : Int) (a4 : Int) (a5 : Int) (r : Int) (w : World) (hr1 : Kd.C (Kd.int .i64) w A1 l1.length l1) (hc1 : l1.length ≤ c1) (hr2 : Kd.C (Kd.int .i64) w A2 l2.length l2) (hc2 : l2.length ≤ c2) (h : separable_Check.f k a0 l1 l2 a3 a4 a5 = some r) :
  Calls Try.prog 12 #[.int .i64 a0, .slice A1 l1.length c1, .slice A2 l2.length c2, .int .i64 a3, .int .i64 a4, .int .i64 a5] w fun e w' => e = .returned (.int .i64 r) ∧ Below w.heap.size w w' := by
 have HR1 := am_ hr1; have HC1 := am_ hc1; clear hr1 hc1; have HR2 := am_ hr2; have HC2 := am_ hc2; clear hr2 hc2; have HB := am_ (Below.refl w.heap.size w); have H : (if (l1.length : Int) < 1 then (separable_Check.j0 k a0 l1 l2 a3 a4 a5 true) else (if (l1.length : Int) > 9 then (separable_Check.j0 k a0 l1 l2 a3 a4 a5 true) else (if (l2.length : Int) < 1 then (separable_Check.j0 k a0 l1 l2 a3 a4 a5 true) else (separable_Check.j0 k a0 l1 l2 a3 a4 a5 (decide ((l2.length : Int) > 9)))))) = some r := h; clear h; have HC7 := am_ H; clear H
 go_enter Try.func12, Try.ntmps12
 go_upto_region 1 with (fail)
 go_cut [33] (fun v33 wc => ∃ (kq : Nat) (x33_6 : Bool), v33 = .bool x33_6 ∧ Aside0 (separable_Check.j0 kq a0 l1 l2 a3 a4 a5 x33_6 = some r) ∧ Aside0 (kq ≤ k) ∧ Aside0 (Below w.heap.size w wc))
 case first =>
  have H := HC7.out; clear HC7
  by_cases c8 : (l1.length : Int) < 1
  ·rw [if_pos c8] at H
   have c8b0 : decide ((l1.length : Int) < 1) = true := decide_eq_true c8; have c8b1 : decide (l1.length < 1) = true := decide_eq_true (by omega); clear c8; (first | rw [c8b0] | (simp only [i64_w, i32_w]; rw [c8b0]) | skip); have H' := am_ H; clear H
   go_wp2
   go_meet
   case rel => exact ⟨_, (true), q195_, H', ⟨by first | omega | exact Nat.le_refl _⟩, ⟨q127_⟩⟩
  ·rw [if_neg c8] at H
   have c8b0 : decide ((l1.length : Int) < 1) = false := decide_eq_false c8; have c8b1 : decide (l1.length < 1) = false := decide_eq_false (by omega); clear c8; (first | rw [c8b0] | (simp only [i64_w, i32_w]; rw [c8b0]) | skip)
   by_cases c9 : (l1.length : Int) > 9
   ·rw [if_pos c9] at H
    have c9b0 : decide (9 < (l1.length : Int)) = true := decide_eq_true c9; have c9b1 : decide (9 < l1.length) = true := decide_eq_true (by omega); clear c9; have H' := am_ H; clear H
    go_wp2
    go_meet
    case rel => exact ⟨_, (true), q195_, H', ⟨by first | omega | exact Nat.le_refl _⟩, ⟨q127_⟩⟩
   ·rw [if_neg c9] at H
    have c9b0 : decide (9 < (l1.length : Int)) = false := decide_eq_false c9; have c9b1 : decide (9 < l1.length) = false := decide_eq_false (by omega); clear c9
    by_cases c10 : (l2.length : Int) < 1
    ·rw [if_pos c10] at H
     have c10b0 : decide ((l2.length : Int) < 1) = true := decide_eq_true c10; have c10b1 : decide (l2.length < 1) = true := decide_eq_true (by omega); clear c10; have H' := am_ H; clear H
     go_wp2
     go_meet
     case rel => exact ⟨_, (true), q195_, H', ⟨by first | omega | exact Nat.le_refl _⟩, ⟨q127_⟩⟩
    ·rw [if_neg c10] at H
     have c10b0 : decide ((l2.length : Int) < 1) = false := decide_eq_false c10; have c10b1 : decide (l2.length < 1) = false := decide_eq_false (by omega); clear c10; have H' := am_ H; clear H
     go_wp2
     go_meet
     case rel => exact ⟨_, (decide ((l2.length : Int) > 9)), q195_, H', ⟨by first | omega | exact Nat.le_refl _⟩, ⟨q127_⟩⟩
 case rest =>
  clear HC7; (try clear c1); (try clear c2); (try clear p2); (try clear c8); (try clear c8b0); (try clear c8b1); (try clear c9); (try clear c9b0); (try clear c9b1); (try clear c10); (try clear c10b0); (try clear c10b1); obtain ⟨kq, x33_6, rfl, HA, HJ6, HB⟩ := hcut; cases kq with
  | zero => exact absurd HA.out (by simp [separable_Check.j0])
  | succ kj6 =>
   have H := HA.out; clear HA; simp only [separable_Check.j0] at H
   by_cases c11 : x33_6 = true
   ·subst c11
    have H1 : (some 9) = some r := by rw [if_pos rfl] at H; exact H
    clear H; have H := H1; clear H1; obtain rfl := Option.some.inj H
    go_wp2
    go_ret
    exact ⟨q189_, q127_⟩
   ·replace c11 := Bool.eq_false_iff.mpr c11
    subst c11; have H1 : ((fixed_Weights.f kj6 l1).bind fun t122 => (if t122 = 0 then ((fixed_Weights.f kj6 l2).bind fun t123 => (if t123 = 0 then ((separable_shiftable.f a3).bind fun t124 => (if t124 = true then ((separable_shiftable.f a4).bind fun t125 => (separable_Check.j1 kj6 a0 l1 l2 a3 a5 (!t125))) else (separable_Check.j1 kj6 a0 l1 l2 a3 a5 true))) else (separable_Check.j1 kj6 a0 l1 l2 a3 a5 true))) else (separable_Check.j1 kj6 a0 l1 l2 a3 a5 true))) = some r := by rw [if_neg (show ¬ (false = true) by decide)] at H; exact H
    clear H; have H := H1; clear H1; have HC12 := am_ H; clear H
    go_upto_region 3 with (fail)
    go_cut [51] (fun v51 wc => ∃ (kq : Nat) (x51_11 : Bool), v51 = .bool x51_11 ∧ Aside0 (separable_Check.j1 kq a0 l1 l2 a3 a5 x51_11 = some r) ∧ Aside0 (kq ≤ kj6) ∧ Aside0 (Below w.heap.size w wc))
    case first =>
     have H := HC12.out; clear HC12; replace H := Option.bind_eq_some_iff.mp H; obtain ⟨t122, A130, H⟩ := H; replace H : (if t122 = 0 then ((fixed_Weights.f kj6 l2).bind fun t123 => (if t123 = 0 then ((separable_shiftable.f a3).bind fun t124 => (if t124 = true then ((separable_shiftable.f a4).bind fun t125 => (separable_Check.j1 kj6 a0 l1 l2 a3 a5 (!t125))) else (separable_Check.j1 kj6 a0 l1 l2 a3 a5 true))) else (separable_Check.j1 kj6 a0 l1 l2 a3 a5 true))) else (separable_Check.j1 kj6 a0 l1 l2 a3 a5 true)) = some r := H; have A13 := am_ A130; clear A130
     by_cases c14 : t122 = 0
     ·rw [if_pos c14] at H
      have c14b0 : (t122 == 0) = true := beq_iff_eq.mpr c14; have c14b1 : (t122 != 0) = false := bne_eq_false_iff_eq.mpr c14; clear c14; (first | rw [c14b0] | (simp only [i64_w, i32_w]; rw [c14b0]) | skip); replace H := Option.bind_eq_some_iff.mp H; obtain ⟨t123, A150, H⟩ := H; replace H : (if t123 = 0 then ((separable_shiftable.f a3).bind fun t124 => (if t124 = true then ((separable_shiftable.f a4).bind fun t125 => (separable_Check.j1 kj6 a0 l1 l2 a3 a5 (!t125))) else (separable_Check.j1 kj6 a0 l1 l2 a3 a5 true))) else (separable_Check.j1 kj6 a0 l1 l2 a3 a5 true)) = some r := H; have A15 := am_ A150; clear A150
      by_cases c16 : t123 = 0
      ·rw [if_pos c16] at H
       have c16b0 : (t123 == 0) = true := beq_iff_eq.mpr c16; have c16b1 : (t123 != 0) = false := bne_eq_false_iff_eq.mpr c16; clear c16; replace H := Option.bind_eq_some_iff.mp H; obtain ⟨t124, A170, H⟩ := H; replace H : (if t124 = true then ((separable_shiftable.f a4).bind fun t125 => (separable_Check.j1 kj6 a0 l1 l2 a3 a5 (!t125))) else (separable_Check.j1 kj6 a0 l1 l2 a3 a5 true)) = some r := H; have A17 := am_ A170; clear A170
       by_cases c18 : t124 = true
       ·subst c18
        have H1 : ((separable_shiftable.f a4).bind fun t125 => (separable_Check.j1 kj6 a0 l1 l2 a3 a5 (!t125))) = some r := by rw [if_pos rfl] at H; exact H
        clear H; have H := H1; clear H1; replace H := Option.bind_eq_some_iff.mp H; obtain ⟨t125, A190, H⟩ := H; replace H : (separable_Check.j1 kj6 a0 l1 l2 a3 a5 (!t125)) = some r := H; have A19 := am_ A190; clear A190; have H' := am_ H; clear H
        go_wp2_with (first | ((with_reducible refine gate_callee (f := 27) rfl ?_); refine goesL_ (some 35) rfl rfl Try.func27 (by kernel_rfl) rfl #[.slice A1 l1.length c1] rfl q123_ ?_; (with_reducible refine (fixed_Weights.calls kj6 _ _ l1 t122 _ ?side1 ?side2 A13.out).mono ?_); (case side1 => repeat (first | exact (Kd.C_below HR1.out HB.out) | (with_reducible refine Kd.C_alloc ?_ _) | (with_reducible refine Kd.C_drewN ?_ _) | (with_reducible refine Kd.C_drew ?_))); (case side2 => exact HC1.out); rintro e w' ⟨rfl, ⟨nd, rfl⟩⟩; refine ⟨_, rfl, ?_⟩) | (go_at_call 27; (with_reducible refine (fixed_Weights.calls kj6 _ _ l2 t123 _ ?side1 ?side2 A15.out).mono ?_); (case side1 => repeat (first | exact (Kd.C_below HR2.out q127_) | (with_reducible refine Kd.C_alloc ?_ _) | (with_reducible refine Kd.C_drewN ?_ _) | (with_reducible refine Kd.C_drew ?_))); (case side2 => exact HC2.out); rintro e w' ⟨rfl, ⟨nd, rfl⟩⟩) | (go_at_call 28; (with_reducible refine (separable_shiftable.calls a3 true _ A17.out).mono ?_); rintro e w' ⟨rfl, ⟨nd, rfl⟩⟩) | (go_at_call 28; (with_reducible refine (separable_shiftable.calls a4 t125 _ A19.out).mono ?_); rintro e w' ⟨rfl, ⟨nd, rfl⟩⟩))
        go_meet
        case rel => exact ⟨_, (!t125), q195_, H', ⟨q193_⟩, ⟨q127_⟩⟩
       ·replace c18 := Bool.eq_false_iff.mpr c18
        subst c18; have H1 : (separable_Check.j1 kj6 a0 l1 l2 a3 a5 true) = some r := by rw [if_neg (show ¬ (false = true) by decide)] at H; exact H
        clear H; have H := H1; clear H1; have H' := am_ H; clear H
        go_wp2_with (first | ((with_reducible refine gate_callee (f := 27) rfl ?_); refine goesL_ (some 35) rfl rfl Try.func27 (by kernel_rfl) rfl #[.slice A1 l1.length c1] rfl q123_ ?_; (with_reducible refine (fixed_Weights.calls kj6 _ _ l1 t122 _ ?side1 ?side2 A13.out).mono ?_); (case side1 => repeat (first | exact (Kd.C_below HR1.out HB.out) | (with_reducible refine Kd.C_alloc ?_ _) | (with_reducible refine Kd.C_drewN ?_ _) | (with_reducible refine Kd.C_drew ?_))); (case side2 => exact HC1.out); rintro e w' ⟨rfl, ⟨nd, rfl⟩⟩; refine ⟨_, rfl, ?_⟩) | (go_at_call 27; (with_reducible refine (fixed_Weights.calls kj6 _ _ l2 t123 _ ?side1 ?side2 A15.out).mono ?_); (case side1 => repeat (first | exact (Kd.C_below HR2.out q127_) | (with_reducible refine Kd.C_alloc ?_ _) | (with_reducible refine Kd.C_drewN ?_ _) | (with_reducible refine Kd.C_drew ?_))); (case side2 => exact HC2.out); rintro e w' ⟨rfl, ⟨nd, rfl⟩⟩) | (go_at_call 28; (with_reducible refine (separable_shiftable.calls a3 false _ A17.out).mono ?_); rintro e w' ⟨rfl, ⟨nd, rfl⟩⟩))
        go_meet
        case rel => exact ⟨_, (true), q195_, H', ⟨q193_⟩, ⟨q127_⟩⟩
      ·rw [if_neg c16] at H
       have c16b0 : (t123 == 0) = false := beq_eq_false_iff_ne.mpr c16; have c16b1 : (t123 != 0) = true := bne_iff_ne.mpr c16; have H' := am_ H; clear H
       go_wp2_with (first | ((with_reducible refine gate_callee (f := 27) rfl ?_); refine goesL_ (some 35) rfl rfl Try.func27 (by kernel_rfl) rfl #[.slice A1 l1.length c1] rfl q123_ ?_; (with_reducible refine (fixed_Weights.calls kj6 _ _ l1 t122 _ ?side1 ?side2 A13.out).mono ?_); (case side1 => repeat (first | exact (Kd.C_below HR1.out HB.out) | (with_reducible refine Kd.C_alloc ?_ _) | (with_reducible refine Kd.C_drewN ?_ _) | (with_reducible refine Kd.C_drew ?_))); (case side2 => exact HC1.out); rintro e w' ⟨rfl, ⟨nd, rfl⟩⟩; refine ⟨_, rfl, ?_⟩) | (go_at_call 27; (with_reducible refine (fixed_Weights.calls kj6 _ _ l2 t123 _ ?side1 ?side2 A15.out).mono ?_); (case side1 => repeat (first | exact (Kd.C_below HR2.out q127_) | (with_reducible refine Kd.C_alloc ?_ _) | (with_reducible refine Kd.C_drewN ?_ _) | (with_reducible refine Kd.C_drew ?_))); (case side2 => exact HC2.out); rintro e w' ⟨rfl, ⟨nd, rfl⟩⟩))
       go_meet
       case rel => exact ⟨_, (true), q195_, H', ⟨q193_⟩, ⟨q127_⟩⟩
     ·rw [if_neg c14] at H
      have c14b0 : (t122 == 0) = false := beq_eq_false_iff_ne.mpr c14; have c14b1 : (t122 != 0) = true := bne_iff_ne.mpr c14; (first | rw [c14b0] | (simp only [i64_w, i32_w]; rw [c14b0]) | skip); have H' := am_ H; clear H
      go_wp2_with (first | ((with_reducible refine gate_callee (f := 27) rfl ?_); refine goesL_ (some 35) rfl rfl Try.func27 (by kernel_rfl) rfl #[.slice A1 l1.length c1] rfl q123_ ?_; (with_reducible refine (fixed_Weights.calls kj6 _ _ l1 t122 _ ?side1 ?side2 A13.out).mono ?_); (case side1 => repeat (first | exact (Kd.C_below HR1.out HB.out) | (with_reducible refine Kd.C_alloc ?_ _) | (with_reducible refine Kd.C_drewN ?_ _) | (with_reducible refine Kd.C_drew ?_))); (case side2 => exact HC1.out); rintro e w' ⟨rfl, ⟨nd, rfl⟩⟩; refine ⟨_, rfl, ?_⟩))
      go_meet
      case rel => exact ⟨_, (true), q195_, H', ⟨q193_⟩, ⟨q127_⟩⟩
    case rest =>
     clear HC12; (try clear c1); (try clear c2); (try clear p2); (try clear c8); (try clear c8b0); (try clear c8b1); (try clear c9); (try clear c9b0); (try clear c9b1); (try clear c10); (try clear c10b0); (try clear c10b1); (try clear c11); (try clear c12); (try clear c14); (try clear c14b0); (try clear c14b1); (try clear c16); (try clear c16b0); (try clear c16b1); (try clear c18); (try clear p2); obtain ⟨kq, x51_11, rfl, HA, HJ11, HB⟩ := hcut; cases kq with
     | zero => exact absurd HA.out (by simp [separable_Check.j1])
     | succ kj11 =>
      have H := HA.out; clear HA; simp only [separable_Check.j1] at H
      by_cases c20 : x51_11 = true
      ·subst c20
       have H1 : (some 10) = some r := by rw [if_pos rfl] at H; exact H
       clear H; have H := H1; clear H1; obtain rfl := Option.some.inj H
       go_wp2
       go_ret
       exact ⟨q189_, q127_⟩
      ·replace c20 := Bool.eq_false_iff.mpr c20
       subst c20; have H1 : ((separable_value.f a0).bind fun t126 => (if t126 = true then ((separable_value.f a5).bind fun t127 => (separable_Check.j2 kj11 a0 l1 l2 a3 (!t127))) else (separable_Check.j2 kj11 a0 l1 l2 a3 true))) = some r := by rw [if_neg (show ¬ (false = true) by decide)] at H; exact H
       clear H; have H := H1; clear H1; have HC21 := am_ H; clear H
       go_upto_region 5 with (fail)
       go_cut [59] (fun v59 wc => ∃ (kq : Nat) (x59_20 : Bool), v59 = .bool x59_20 ∧ Aside0 (separable_Check.j2 kq a0 l1 l2 a3 x59_20 = some r) ∧ Aside0 (kq ≤ kj11) ∧ Aside0 (Below w.heap.size w wc))
       case first =>
        have H := HC21.out; clear HC21; replace H := Option.bind_eq_some_iff.mp H; obtain ⟨t126, A220, H⟩ := H; replace H : (if t126 = true then ((separable_value.f a5).bind fun t127 => (separable_Check.j2 kj11 a0 l1 l2 a3 (!t127))) else (separable_Check.j2 kj11 a0 l1 l2 a3 true)) = some r := H; have A22 := am_ A220; clear A220
        by_cases c23 : t126 = true
        ·subst c23
         have H1 : ((separable_value.f a5).bind fun t127 => (separable_Check.j2 kj11 a0 l1 l2 a3 (!t127))) = some r := by rw [if_pos rfl] at H; exact H
         clear H; have H := H1; clear H1; replace H := Option.bind_eq_some_iff.mp H; obtain ⟨t127, A240, H⟩ := H; replace H : (separable_Check.j2 kj11 a0 l1 l2 a3 (!t127)) = some r := H; have A24 := am_ A240; clear A240; have H' := am_ H; clear H
         go_wp2_with (first | ((with_reducible refine gate_callee (f := 29) rfl ?_); refine goesL_ (some 53) rfl rfl Try.func29 (by kernel_rfl) rfl #[.int .i64 a0] rfl q123_ ?_; (with_reducible refine (separable_value.calls a0 true _ A22.out).mono ?_); rintro e w' ⟨rfl, ⟨nd, rfl⟩⟩; refine ⟨_, rfl, ?_⟩) | (go_at_call 29; (with_reducible refine (separable_value.calls a5 t127 _ A24.out).mono ?_); rintro e w' ⟨rfl, ⟨nd, rfl⟩⟩))
         go_meet
         case rel => exact ⟨_, (!t127), q195_, H', ⟨by have := HJ6.out; have := HJ11.out; first | omega | exact Nat.le_refl _⟩, ⟨q127_⟩⟩
        ·replace c23 := Bool.eq_false_iff.mpr c23
         subst c23; have H1 : (separable_Check.j2 kj11 a0 l1 l2 a3 true) = some r := by rw [if_neg (show ¬ (false = true) by decide)] at H; exact H
         clear H; have H := H1; clear H1; have H' := am_ H; clear H
         go_wp2_with (first | ((with_reducible refine gate_callee (f := 29) rfl ?_); refine goesL_ (some 53) rfl rfl Try.func29 (by kernel_rfl) rfl #[.int .i64 a0] rfl q123_ ?_; (with_reducible refine (separable_value.calls a0 false _ A22.out).mono ?_); rintro e w' ⟨rfl, ⟨nd, rfl⟩⟩; refine ⟨_, rfl, ?_⟩))
         go_meet
         case rel => exact ⟨_, (true), q195_, H', ⟨by have := HJ6.out; have := HJ11.out; first | omega | exact Nat.le_refl _⟩, ⟨q127_⟩⟩
       case rest =>
        clear HC21; (try clear c1); (try clear c2); (try clear p2); (try clear c8); (try clear c8b0); (try clear c8b1); (try clear c9); (try clear c9b0); (try clear c9b1); (try clear c10); (try clear c10b0); (try clear c10b1); (try clear c11); (try clear c12); (try clear c14); (try clear c14b0); (try clear c14b1); (try clear c16); (try clear c16b0); (try clear c16b1); (try clear c18); (try clear c20); (try clear c23); (try clear p2); obtain ⟨kq, x59_20, rfl, HA, HJ20, HB⟩ := hcut; cases kq with
        | zero => exact absurd HA.out (by simp [separable_Check.j2])
        | succ kj20 =>
         have H := HA.out; clear HA; simp only [separable_Check.j2] at H
         by_cases c25 : x59_20 = true
         ·subst c25
          have H1 : (some 2) = some r := by rw [if_pos rfl] at H; exact H
          clear H; have H := H1; clear H1; obtain rfl := Option.some.inj H
          go_wp2
          go_ret
          exact ⟨q189_, q127_⟩
         ·replace c25 := Bool.eq_false_iff.mpr c25
          subst c25; have H1 : ((fixed_Bounds.f kj20 l1 0 a0).bind fun bt128 => (if bt128.2.2 = true then ((fixed_Span.f kj20 bt128.1 bt128.2.1 a3).bind fun bt131 => ((fixed_Bounds.f kj20 l2 bt131.1 bt131.2).bind fun bt133 => (if bt133.2.2 = true then (some 0) else (some 11)))) else (some 11))) = some r := by rw [if_neg (show ¬ (false = true) by decide)] at H; exact H
          clear H; have H := H1; clear H1; replace H := Option.bind_eq_some_iff.mp H; obtain ⟨⟨t128, t129, t130⟩, A260, H⟩ := H; replace H : (if t130 = true then ((fixed_Span.f kj20 t128 t129 a3).bind fun bt131 => ((fixed_Bounds.f kj20 l2 bt131.1 bt131.2).bind fun bt133 => (if bt133.2.2 = true then (some 0) else (some 11)))) else (some 11)) = some r := H; have A26 := am_ A260; clear A260
          by_cases c27 : t130 = true
          ·subst c27
           have H1 : ((fixed_Span.f kj20 t128 t129 a3).bind fun bt131 => ((fixed_Bounds.f kj20 l2 bt131.1 bt131.2).bind fun bt133 => (if bt133.2.2 = true then (some 0) else (some 11)))) = some r := by rw [if_pos rfl] at H; exact H
           clear H; have H := H1; clear H1; replace H := Option.bind_eq_some_iff.mp H; obtain ⟨⟨t131, t132⟩, A280, H⟩ := H; replace H : ((fixed_Bounds.f kj20 l2 t131 t132).bind fun bt133 => (if bt133.2.2 = true then (some 0) else (some 11))) = some r := H; have A28 := am_ A280; clear A280; replace H := Option.bind_eq_some_iff.mp H; obtain ⟨⟨t133, t134, t135⟩, A290, H⟩ := H; replace H : (if t135 = true then (some 0) else (some 11)) = some r := H; have A29 := am_ A290; clear A290
           by_cases c30 : t135 = true
           ·subst c30
            have H1 : (some 0) = some r := by rw [if_pos rfl] at H; exact H
            clear H; have H := H1; clear H1; obtain rfl := Option.some.inj H
            go_wp2_with (first | ((with_reducible refine gate_callee (f := 30) rfl ?_); refine goesL_ (some 63) rfl rfl Try.func30 (by kernel_rfl) rfl #[.slice A1 l1.length c1, .int .i64 0, .int .i64 a0] rfl q123_ ?_; (with_reducible refine (fixed_Bounds.calls kj20 _ _ l1 0 a0 t128 t129 true _ ?side1 ?side2 A26.out).mono ?_); (case side1 => repeat (first | exact (Kd.C_below HR1.out HB.out) | (with_reducible refine Kd.C_alloc ?_ _) | (with_reducible refine Kd.C_drewN ?_ _) | (with_reducible refine Kd.C_drew ?_))); (case side2 => exact HC1.out); rintro e w31 ⟨rfl, hb⟩; refine ⟨_, rfl, ?_⟩; have n0_ := am_ (below_step q127_ hb); clear HB; have HB := n0_; clear n0_; (try clear hb); (try clear hb2); (try clear hk); (try clear hi)) | ((with_reducible refine gate_callee (f := 31) rfl ?_); refine goesL_ (some 72) rfl rfl Try.func31 (by kernel_rfl) rfl #[.int .i64 t128, .int .i64 t129, .int .i64 a3] rfl q123_ ?_; (with_reducible refine (fixed_Span.calls kj20 t128 t129 a3 t131 t132 _ A28.out).mono ?_); rintro e w' ⟨rfl, ⟨nd, rfl⟩⟩; refine ⟨_, rfl, ?_⟩) | ((with_reducible refine gate_callee (f := 30) rfl ?_); refine goesL_ (some 79) rfl rfl Try.func30 (by kernel_rfl) rfl #[.slice A2 l2.length c2, .int .i64 t131, .int .i64 t132] rfl q123_ ?_; (with_reducible refine (fixed_Bounds.calls kj20 _ _ l2 t131 t132 t133 t134 true _ ?side1 ?side2 A29.out).mono ?_); (case side1 => repeat (first | exact (Kd.C_below HR2.out q127_) | (with_reducible refine Kd.C_alloc ?_ _) | (with_reducible refine Kd.C_drewN ?_ _) | (with_reducible refine Kd.C_drew ?_))); (case side2 => exact HC2.out); rintro e w32 ⟨rfl, hb⟩; refine ⟨_, rfl, ?_⟩; have n0_ := am_ (below_step q127_ hb); clear HB; have HB := n0_; clear n0_; (try clear hb); (try clear hb2); (try clear hk); (try clear hi)))
            go_ret
            exact ⟨q189_, q127_⟩
           ·replace c30 := Bool.eq_false_iff.mpr c30
            subst c30; have H1 : (some 11) = some r := by rw [if_neg (show ¬ (false = true) by decide)] at H; exact H
            clear H; have H := H1; clear H1; obtain rfl := Option.some.inj H
            go_wp2_with (first | ((with_reducible refine gate_callee (f := 30) rfl ?_); refine goesL_ (some 63) rfl rfl Try.func30 (by kernel_rfl) rfl #[.slice A1 l1.length c1, .int .i64 0, .int .i64 a0] rfl q123_ ?_; (with_reducible refine (fixed_Bounds.calls kj20 _ _ l1 0 a0 t128 t129 true _ ?side1 ?side2 A26.out).mono ?_); (case side1 => repeat (first | exact (Kd.C_below HR1.out HB.out) | (with_reducible refine Kd.C_alloc ?_ _) | (with_reducible refine Kd.C_drewN ?_ _) | (with_reducible refine Kd.C_drew ?_))); (case side2 => exact HC1.out); rintro e w33 ⟨rfl, hb⟩; refine ⟨_, rfl, ?_⟩; have n0_ := am_ (below_step q127_ hb); clear HB; have HB := n0_; clear n0_; (try clear hb); (try clear hb2); (try clear hk); (try clear hi)) | ((with_reducible refine gate_callee (f := 31) rfl ?_); refine goesL_ (some 72) rfl rfl Try.func31 (by kernel_rfl) rfl #[.int .i64 t128, .int .i64 t129, .int .i64 a3] rfl q123_ ?_; (with_reducible refine (fixed_Span.calls kj20 t128 t129 a3 t131 t132 _ A28.out).mono ?_); rintro e w' ⟨rfl, ⟨nd, rfl⟩⟩; refine ⟨_, rfl, ?_⟩) | ((with_reducible refine gate_callee (f := 30) rfl ?_); refine goesL_ (some 79) rfl rfl Try.func30 (by kernel_rfl) rfl #[.slice A2 l2.length c2, .int .i64 t131, .int .i64 t132] rfl q123_ ?_; (with_reducible refine (fixed_Bounds.calls kj20 _ _ l2 t131 t132 t133 t134 false _ ?side1 ?side2 A29.out).mono ?_); (case side1 => repeat (first | exact (Kd.C_below HR2.out q127_) | (with_reducible refine Kd.C_alloc ?_ _) | (with_reducible refine Kd.C_drewN ?_ _) | (with_reducible refine Kd.C_drew ?_))); (case side2 => exact HC2.out); rintro e w34 ⟨rfl, hb⟩; refine ⟨_, rfl, ?_⟩; have n0_ := am_ (below_step q127_ hb); clear HB; have HB := n0_; clear n0_; (try clear hb); (try clear hb2); (try clear hk); (try clear hi)))
            go_ret
            exact ⟨q189_, q127_⟩
          ·replace c27 := Bool.eq_false_iff.mpr c27
           subst c27; have H1 : (some 11) = some r := by rw [if_neg (show ¬ (false = true) by decide)] at H; exact H
           clear H; have H := H1; clear H1; obtain rfl := Option.some.inj H
           go_wp2_with (first | ((with_reducible refine gate_callee (f := 30) rfl ?_); refine goesL_ (some 63) rfl rfl Try.func30 (by kernel_rfl) rfl #[.slice A1 l1.length c1, .int .i64 0, .int .i64 a0] rfl q123_ ?_; (with_reducible refine (fixed_Bounds.calls kj20 _ _ l1 0 a0 t128 t129 false _ ?side1 ?side2 A26.out).mono ?_); (case side1 => repeat (first | exact (Kd.C_below HR1.out HB.out) | (with_reducible refine Kd.C_alloc ?_ _) | (with_reducible refine Kd.C_drewN ?_ _) | (with_reducible refine Kd.C_drew ?_))); (case side2 => exact HC1.out); rintro e w35 ⟨rfl, hb⟩; refine ⟨_, rfl, ?_⟩; have n0_ := am_ (below_step q127_ hb); clear HB; have HB := n0_; clear n0_; (try clear hb); (try clear hb2); (try clear hk); (try clear hi)))
           go_ret
           exact ⟨q189_, q127_⟩

end Go.Proofs.Ytcfllciehmgikaa.PSeparableCrops
