-- Written by a program of the session (wip/tools/pack.py): the printed texts, pruned; checked by Lean.
import Derived.Test.YtepbjipmfchpnaaKFixedBoundsa
import Derived.Test.YtepbjipmfchpnaaKFixedBoundsx0
import Derived.Test.YtepbjipmfchpnaaKFixedBoundsx1
namespace Go.Proofs.Ytepbjipmfchpnaa.PFixedBounds
open Go.RowKit Go.Proofs.YtepbjipmfchpnaaW.PrintWords Go.Proofs.YtepbjipmfchpnaaW.PrintLast Go.Proofs.YtepbjipmfchpnaaW.PrintMore
attribute [local go_sem] max2_int min2_int max_two min_two max_three min_three max_four min_four   -- for this text's walks alone
set_option linter.unusedVariables false
set_option linter.unusedSimpArgs false
def fixed_Bounds.l0 : Nat → List Int → Int → Int → Int → Int → Int → Int → Int → Option (Int × Int × Bool)
  | 0, _, _, _, _, _, _, _, _ => none
  | k + 1, l, lo, hi, i, a, b, c, d => if i < (l.length : Int) then (if 0 ≤ i then ((fixed_wide_add.f a b (mn (wrap64 ((rd l i) * lo)) (wrap64 ((rd l i) * hi)))).bind fun p => ((fixed_wide_add.f c d (mx (wrap64 ((rd l i) * lo)) (wrap64 ((rd l i) * hi)))).bind fun q => (fixed_Bounds.l0 k l lo hi (wrap64 (i + 1)) p.1 p.2 q.1 q.2))) else none) else ((fixed_wide_value.f a b).bind fun p => ((fixed_wide_value.f c d).bind fun q => (if p.2.1 = true then (if q.2.1 = true then (some (p.1, q.1, true)) else (some (0, 0, false))) else (some (0, 0, false)))))
def fixed_Bounds.f (k : Nat) (l0 : List Int) (a1 : Int) (a2 : Int) : Option (Int × Int × Bool) := (fixed_Weights.f k l0).bind fun t => (if t = 0 then (if a1 > a2 then (some (0, 0, false)) else (if a1 < (-68719476736) then (some (0, 0, false)) else (if a2 > 68719476736 then (some (0, 0, false)) else (fixed_Bounds.l0 k l0 a1 a2 0 0 0 0 0)))) else (some (0, 0, false)))
theorem fixed_Bounds.mono_l : ∀ k, (∀ y0 y1 y2 y3 y4 y5 y6 y7, LeO (fixed_Bounds.l0 k y0 y1 y2 y3 y4 y5 y6 y7) (fixed_Bounds.l0 (k + 1) y0 y1 y2 y3 y4 y5 y6 y7))
  | 0 => fun _ _ _ _ _ _ _ _ r h => by simp [fixed_Bounds.l0] at h
  | k + 1 => by
    have ih0 := fixed_Bounds.mono_l k
    intro y0 y1 y2 y3 y4 y5 y6 y7
    unfold fixed_Bounds.l0
    repeat' first
      | (with_reducible exact ih0 _ _ _ _ _ _ _ _)
      | (with_reducible exact LeO.refl _)
      | (with_reducible exact LeO.none _)
      | (with_reducible refine LeO.ite ?_ ?_)
      | (with_reducible refine LeO.bind ?_ (fun _ => ?_))
      | exact ih0 _ _ _ _ _ _ _ _
      | refine LeO.ite ?_ ?_
      | refine LeO.bind ?_ (fun _ => ?_)
theorem fixed_Bounds.mono : ∀ a0 a1 a2 k, LeO (fixed_Bounds.f k a0 a1 a2) (fixed_Bounds.f (k + 1) a0 a1 a2) := by
  intro a0 a1 a2 k
  have ih0 := fixed_Bounds.mono_l k
  unfold fixed_Bounds.f
  repeat' first
      | (with_reducible exact ih0 _ _ _ _ _ _ _ _)
      | (with_reducible exact fixed_Weights.mono _ _)
      | (with_reducible exact LeO.refl _)
      | (with_reducible exact LeO.none _)
      | (with_reducible refine LeO.ite ?_ ?_)
      | (with_reducible refine LeO.bind ?_ (fun _ => ?_))
      | exact ih0 _ _ _ _ _ _ _ _
      | refine LeO.ite ?_ ?_
      | refine LeO.bind ?_ (fun _ => ?_)
theorem fixed_Bounds.keepS {w0 W W' : World} {g g' : Nat} {f0 f1 : Int} (h : IsS43 w0 W g f0 f1) (hk : KeepBut W W' g' none) (hn : g ≠ g') : IsS43 w0 W' g f0 f1 := by
  obtain ⟨hb, hg⟩ := h
  exact ⟨hk.blk hb hn (by simp), hg⟩
set_option maxHeartbeats 8000000 in
set_option maxRecDepth 100000 in
theorem fixed_Bounds.calls (k : Nat) (A0 : Option Addr) (c0 : Nat) (l0 : List Int) (a1 : Int) (a2 : Int) (r1 : Int) (r2 : Int) (r3 : Bool) (w : World) (hr0 : Kd.C (Kd.int .i64) w A0 l0.length l0) (hc0 : l0.length ≤ c0) (h : fixed_Bounds.f k l0 a1 a2 = some (r1, r2, r3)) :
    Calls Try.prog 11 #[.slice A0 l0.length c0, .int .i64 a1, .int .i64 a2] w fun e w' => e = .returned (.tuple #[.int .i64 r1, .int .i64 r2, .bool r3]) ∧ Below w.heap.size w w' := by
  have HR0 := Aside0.mk hr0
  have HC0 := Aside0.mk hc0
  clear hr0 hc0
  have HB := Aside0.mk (Below.refl w.heap.size w)
  unfold fixed_Bounds.f at h
  replace h := Option.bind_eq_some_iff.mp h
  obtain ⟨t, A50, H⟩ := h
  have A5 := Aside0.mk A50
  clear A50
  by_cases c1 : t = 0
  · rw [if_pos c1] at H
    have c1b0 : (t == 0) = true := beq_iff_eq.mpr c1
    have c1b1 : (t != 0) = false := bne_eq_false_iff_eq.mpr c1
    clear c1
    by_cases c2 : a1 > a2
    · rw [if_pos c2] at H
      have c2b0 : decide (a2 < a1) = true := decide_eq_true c2
      clear c2
      simp only [Option.some.injEq, Prod.mk.injEq] at H
      obtain ⟨rfl, rfl, rfl⟩ := H
      go_enter Try.func11, Try.ntmps11
      go_wp2_with (go_at_call 13; (with_reducible refine (fixed_Weights.calls k _ _ l0 t _ ?side1 ?side2 A5.out).mono ?_); (case side1 => exact HR0.out); (case side2 => exact HC0.out); rintro e w' ⟨rfl, ⟨nd, rfl⟩⟩)
      go_ret3
      exact ⟨rfl, q11_⟩
    · rw [if_neg c2] at H
      have c2b0 : decide (a2 < a1) = false := decide_eq_false c2
      clear c2
      by_cases c3 : a1 < (-68719476736)
      · rw [if_pos c3] at H
        have c3b0 : decide (a1 < (-68719476736)) = true := decide_eq_true c3
        clear c3
        simp only [Option.some.injEq, Prod.mk.injEq] at H
        obtain ⟨rfl, rfl, rfl⟩ := H
        go_enter Try.func11, Try.ntmps11
        go_wp2_with (go_at_call 13; (with_reducible refine (fixed_Weights.calls k _ _ l0 t _ ?side1 ?side2 A5.out).mono ?_); (case side1 => exact HR0.out); (case side2 => exact HC0.out); rintro e w' ⟨rfl, ⟨nd, rfl⟩⟩)
        go_ret3
        exact ⟨rfl, q11_⟩
      · rw [if_neg c3] at H
        have c3b0 : decide (a1 < (-68719476736)) = false := decide_eq_false c3
        clear c3
        by_cases c4 : a2 > 68719476736
        · rw [if_pos c4] at H
          have c4b0 : decide (68719476736 < a2) = true := decide_eq_true c4
          clear c4
          simp only [Option.some.injEq, Prod.mk.injEq] at H
          obtain ⟨rfl, rfl, rfl⟩ := H
          go_enter Try.func11, Try.ntmps11
          go_wp2_with (go_at_call 13; (with_reducible refine (fixed_Weights.calls k _ _ l0 t _ ?side1 ?side2 A5.out).mono ?_); (case side1 => exact HR0.out); (case side2 => exact HC0.out); rintro e w' ⟨rfl, ⟨nd, rfl⟩⟩)
          go_ret3
          exact ⟨rfl, q11_⟩
        · rw [if_neg c4] at H
          have c4b0 : decide (68719476736 < a2) = false := decide_eq_false c4
          clear c4
          have H' := Aside0.mk H
          clear H
          have hu43 := Try.underlying43
          go_enter Try.func11, Try.ntmps11
          go_wp2_with (go_at_call 13; (with_reducible refine (fixed_Weights.calls k _ _ l0 t _ ?side1 ?side2 A5.out).mono ?_); (case side1 => exact HR0.out); (case side2 => exact HC0.out); rintro e w' ⟨rfl, ⟨nd, rfl⟩⟩)
          go_loopg [37] k (fun kq v37 w' => ∃ (i a b c d : Int), v37 = .int .i64 i ∧ Aside0 (fixed_Bounds.l0 kq l0 a1 a2 i a b c d = some (r1, r2, r3)) ∧ Aside0 (kq ≤ k) ∧ Aside0 (IsS43 w w' w.heap.size a b) ∧ Aside0 (IsS43 w w' (w.heap.size + 1) c d) ∧ Aside0 (Below w.heap.size w w'))
          case atStart =>
            refine ⟨0, 0, 0, 0, 0, rfl, H', ⟨Nat.le_refl _⟩, ⟨?_⟩, ⟨?_⟩, ⟨?_⟩⟩
            · repeat (first | exact IsS43.new w (w.drewN nd) 0 0 (by repeat (first | exact HB.out | apply pw_below_drewN)) | apply IsS43.alloc | apply IsS43.drewN | apply IsS43.drew)
            · refine (?_ : IsS43 w _ (((w.drewN nd).alloc (Obj.cells #[Value.int IntKind.i64 0, Value.int IntKind.i64 0] 43)).heap.size) 0 0) |> fun h => by simpa using h
              exact IsS43.new w _ 0 0 (by repeat (first | exact HB.out | apply below_alloc | apply pw_below_drewN))
            · repeat (first | exact HB.out | apply below_alloc | apply pw_below_drewN | apply below_drew1)
          case round =>
            clear H'
            obtain ⟨i, a, b, c, d, rfl, HA, HK1, S10, S20, HB⟩ := hrel
            cases gk with
            | zero => exact absurd HA.out (by simp [fixed_Bounds.l0])
            | succ k1 =>
              have H := HA.out
              clear HA
              simp only [fixed_Bounds.l0] at H
              by_cases c5 : i < (l0.length : Int)
              · rw [if_pos c5] at H
                by_cases c6 : 0 ≤ i
                · rw [if_pos c6] at H
                  have c5b0 : decide (i < (l0.length : Int)) = true := decide_eq_true c5
                  have c6b0 : decide (0 ≤ i) = true := decide_eq_true c6
                  replace H := Option.bind_eq_some_iff.mp H
                  obtain ⟨⟨p1, p2⟩, A60, H⟩ := H
                  replace H := Option.bind_eq_some_iff.mp H
                  obtain ⟨⟨q1, q2⟩, A70, H⟩ := H
                  obtain ⟨jn, hjn⟩ : ∃ j_ : Int, (mn (wrap64 ((rd l0 i) * a1)) (wrap64 ((rd l0 i) * a2))) = j_ := ⟨_, rfl⟩
                  rw [hjn] at A60
                  have hjn_ : (if (wrap64 ((rd l0 i) * a2)) < (wrap64 ((rd l0 i) * a1)) then (wrap64 ((rd l0 i) * a2)) else (wrap64 ((rd l0 i) * a1))) = jn := hjn
                  obtain ⟨jx, hjx⟩ : ∃ j_ : Int, (mx (wrap64 ((rd l0 i) * a1)) (wrap64 ((rd l0 i) * a2))) = j_ := ⟨_, rfl⟩
                  rw [hjx] at A70
                  have hjx_ : (if (wrap64 ((rd l0 i) * a1)) < (wrap64 ((rd l0 i) * a2)) then (wrap64 ((rd l0 i) * a2)) else (wrap64 ((rd l0 i) * a1))) = jx := hjx
                  have A6 := Aside0.mk A60
                  have A7 := Aside0.mk A70
                  have H' := Aside0.mk H
                  clear A60 A70 H c5 c6
                  have p139 : 0 ≤ (i : Int) := of_decide_eq_true q21_
                  have q139 : i < (l0.length : Int) := of_decide_eq_true q21_
                  obtain ⟨ad139, e139, hx139_0⟩ := Kd.at_int HR0.out i p139 q139
                  cases e139
                  replace hx139_0 := (HB.out.cell (World.block_lt_of_cell? w _ hx139_0)).trans hx139_0
                  replace p139 := eq_true p139
                  replace q139 := eq_true q139
                  go_wp2_with (first | ((with_reducible refine gate_callee (f := 23) rfl ?_); refine goesL_ (some 50) rfl rfl Try.func23 (by kernel_rfl) rfl #[.pointer (some ⟨w.heap.size, 0, none⟩), .int .i64 jn] rfl q19_ ?_; (with_reducible refine (fixed_wide_add.calls w.heap.size a b jn p1 p2 w _ ?side1 ?side2 A6.out).mono ?_); (case side1 => exact S10.out); (case side2 => exact HB.out); rintro e w7 ⟨rfl, hi, hb, hk⟩; refine ⟨_, rfl, ?_⟩; have n1_ := Aside0.mk hi; have n2_ := Aside0.mk (fixed_Bounds.keepS S20.out hk (Nat.succ_ne_self _)); have n3_ := Aside0.mk hb; clear S10 S20 HB; have S10 := n1_; have S20 := n2_; have HB := n3_; clear n1_ n2_ n3_ hi hb hk) | ((with_reducible refine gate_callee (f := 23) rfl ?_); refine goesL_ (some 54) rfl rfl Try.func23 (by kernel_rfl) rfl #[.pointer (some ⟨w.heap.size + 1, 0, none⟩), .int .i64 jx] rfl q19_ ?_; (with_reducible refine (fixed_wide_add.calls (w.heap.size + 1) c d jx q1 q2 w _ ?side1 ?side2 A7.out).mono ?_); (case side1 => exact S20.out); (case side2 => exact HB.out); rintro e w8 ⟨rfl, hi, hb, hk⟩; refine ⟨_, rfl, ?_⟩; have n1_ := Aside0.mk hi; have n2_ := Aside0.mk (fixed_Bounds.keepS S10.out hk (Nat.ne_of_lt (Nat.lt_succ_self _))); have n3_ := Aside0.mk hb; clear S10 S20 HB; have S20 := n1_; have S10 := n2_; have HB := n3_; clear n1_ n2_ n3_ hi hb hk))
                  go_roundg k1
                  case measure => have := HK1.out; omega
                  case rel => exact ⟨(wrap64 (i + 1)), p1, p2, q1, q2, rfl, H', ⟨by have := HK1.out; omega⟩, S10, S20, HB⟩
                · rw [if_neg c6] at H
                  exact absurd H (by simp)
              · rw [if_neg c5] at H
                have c5b0 : decide (i < (l0.length : Int)) = false := decide_eq_false c5
                clear c5
                replace H := Option.bind_eq_some_iff.mp H
                obtain ⟨⟨p1, p2, p3, p4⟩, A60, H⟩ := H
                replace H := Option.bind_eq_some_iff.mp H
                obtain ⟨⟨q1, q2, q3, q4⟩, A70, H⟩ := H
                replace H : (if p2 = true then (if q2 = true then (some (p1, q1, true)) else (some (0, 0, false))) else (some (0, 0, false))) = some (r1, r2, r3) := H
                have A6 := Aside0.mk A60
                have A7 := Aside0.mk A70
                clear A60 A70
                rcases p2 with _ | _ <;> rcases q2 with _ | _
                all_goals
                  simp only [Option.some.injEq, Prod.mk.injEq, if_true, if_false, Bool.false_eq_true, eq_self_iff_true] at H
                  obtain ⟨rfl, rfl, rfl⟩ := H
                  go_wp2_with (first | ((with_reducible refine gate_callee (f := 24) rfl ?_); refine goesL_ (some 57) rfl rfl Try.func24 (by kernel_rfl) rfl #[.pointer (some ⟨w.heap.size, 0, none⟩)] rfl q19_ ?_; (with_reducible refine (fixed_wide_value.calls w.heap.size a b _ _ _ _ w _ ?side1 ?side2 A6.out).mono ?_); (case side1 => exact S10.out); (case side2 => exact HB.out); rintro e w7 ⟨rfl, hi, hb, hk⟩; refine ⟨_, rfl, ?_⟩; have n2_ := Aside0.mk (fixed_Bounds.keepS S20.out hk (Nat.succ_ne_self _)); have n3_ := Aside0.mk hb; clear S10 S20 HB; have S20 := n2_; have HB := n3_; clear n2_ n3_ hi hb hk) | ((with_reducible refine gate_callee (f := 24) rfl ?_); refine goesL_ (some 61) rfl rfl Try.func24 (by kernel_rfl) rfl #[.pointer (some ⟨w.heap.size + 1, 0, none⟩)] rfl q19_ ?_; (with_reducible refine (fixed_wide_value.calls (w.heap.size + 1) c d _ _ _ _ w _ ?side1 ?side2 A7.out).mono ?_); (case side1 => exact S20.out); (case side2 => exact HB.out); rintro e w8 ⟨rfl, hi, hb, hk⟩; refine ⟨_, rfl, ?_⟩; have n3_ := Aside0.mk hb; clear S20 HB; have HB := n3_; clear n3_ hi hb hk))
                  go_ret3
                  exact ⟨rfl, q11_⟩
  · rw [if_neg c1] at H
    have c1b0 : (t == 0) = false := beq_eq_false_iff_ne.mpr c1
    have c1b1 : (t != 0) = true := bne_iff_ne.mpr c1
    clear c1
    simp only [Option.some.injEq, Prod.mk.injEq] at H
    obtain ⟨rfl, rfl, rfl⟩ := H
    go_enter Try.func11, Try.ntmps11
    go_wp2_with (go_at_call 13; (with_reducible refine (fixed_Weights.calls k _ _ l0 t _ ?side1 ?side2 A5.out).mono ?_); (case side1 => exact HR0.out); (case side2 => exact HC0.out); rintro e w' ⟨rfl, ⟨nd, rfl⟩⟩)
    go_ret3
    exact ⟨rfl, q11_⟩



def tilefarmref7_IsWeight.f (a0 : Int) : Option (Bool) := if a0 ≥ (-32767) then (some (decide (a0 ≤ 32767))) else (some false)
set_option maxHeartbeats 8000000 in
set_option maxRecDepth 100000 in
theorem tilefarmref7_IsWeight.calls (a0 : Int) (r : Bool) (w : World) (h : tilefarmref7_IsWeight.f a0 = some r) :
    Calls Try.prog 29 #[.int .i64 a0] w fun e w' => e = .returned (.bool r) ∧ Drawn0 w w' := by
  have H : (if a0 ≥ (-32767) then (some (decide (a0 ≤ 32767))) else (some false)) = some r := h
  clear h
  by_cases c2 : a0 ≥ (-32767)
  · rw [if_pos c2] at H
    have c2b0 : decide ((-32767) ≤ a0) = true := decide_eq_true c2
    clear c2
    obtain rfl := Option.some.inj H
    go_enter Try.func29, Try.ntmps29
    go_wp2
    go_ret
    exact ⟨q22_, q20_⟩
  · rw [if_neg c2] at H
    have c2b0 : decide ((-32767) ≤ a0) = false := decide_eq_false c2
    clear c2
    obtain rfl := Option.some.inj H
    go_enter Try.func29, Try.ntmps29
    go_wp2
    go_ret
    exact ⟨q22_, q20_⟩


def tilefarmref7_AreWeights.l0 : Nat → List Int → Int → Option (Bool)
  | 0, _, _ => none
  | k + 1, x0, x3 => if x3 < (x0.length : Int) then (if 0 ≤ x3 then ((tilefarmref7_IsWeight.f (rd x0 x3)).bind fun t120 => (if t120 = true then (tilefarmref7_AreWeights.l0 k x0 (wrap64 (x3 + 1))) else (some false))) else (none)) else (some true)
def tilefarmref7_AreWeights.f (k : Nat) (l0 : List Int) : Option (Bool) := tilefarmref7_AreWeights.l0 k l0 0
theorem tilefarmref7_AreWeights.mono_l : ∀ k, (∀ y0 y1, LeO (tilefarmref7_AreWeights.l0 k y0 y1) (tilefarmref7_AreWeights.l0 (k + 1) y0 y1))
  | 0 => fun _ _ r h => by simp [tilefarmref7_AreWeights.l0] at h
  | k + 1 => by
    have ih0 := tilefarmref7_AreWeights.mono_l k
    · intro y0 y1
      unfold tilefarmref7_AreWeights.l0
      repeat' first
      | (with_reducible exact ih0 _ _)
      | (with_reducible exact LeO.refl _)
      | (with_reducible exact LeO.none _)
      | (with_reducible refine LeO.ite ?_ ?_)
      | (with_reducible refine LeO.bind ?_ (fun _ => ?_))
      | exact ih0 _ _
      | exact LeO.none _
      | refine LeO.ite ?_ ?_
      | refine LeO.bind ?_ (fun _ => ?_)
theorem tilefarmref7_AreWeights.mono : ∀ a0 k, LeO (tilefarmref7_AreWeights.f k a0) (tilefarmref7_AreWeights.f (k + 1) a0) := by
  intro a0 k
  have ih0 := tilefarmref7_AreWeights.mono_l k
  unfold tilefarmref7_AreWeights.f
  repeat' first
      | (with_reducible exact ih0 _ _)
      | (with_reducible exact LeO.refl _)
      | (with_reducible exact LeO.none _)
      | (with_reducible refine LeO.ite ?_ ?_)
      | (with_reducible refine LeO.bind ?_ (fun _ => ?_))
      | exact ih0 _ _
      | exact LeO.none _
      | refine LeO.ite ?_ ?_
      | refine LeO.bind ?_ (fun _ => ?_)
set_option maxHeartbeats 8000000 in
set_option maxRecDepth 100000 in
theorem tilefarmref7_AreWeights.calls (k : Nat) (A0 : Option Addr) (c0 : Nat) (l0 : List Int) (r : Bool) (w : World) (hr0 : Kd.C (Kd.int .i64) w A0 l0.length l0) (hc0 : l0.length ≤ c0) (h : tilefarmref7_AreWeights.f k l0 = some r) :
    Calls Try.prog 26 #[.slice A0 l0.length c0] w fun e w' => e = .returned (.bool r) ∧ Drawn0 w w' := by
  have HR0 := Aside0.mk hr0
  have HC0 := Aside0.mk hc0
  clear hr0 hc0
  have H : (tilefarmref7_AreWeights.l0 k l0 0) = some r := h
  clear h
  have H' := Aside0.mk H
  clear H
  go_enter Try.func26, Try.ntmps26
  go_wp2
  go_loopg [3] k (fun kq v3 w' => ∃ (x3_1 : Int), v3 = .int .i64 x3_1 ∧ Aside0 (tilefarmref7_AreWeights.l0 kq l0 x3_1 = some r) ∧ Aside0 (kq ≤ k) ∧ Drawn0 w w')
  case atStart => exact ⟨(0), q22_, H', ⟨Nat.le_refl _⟩, q20_⟩
  case round =>
    clear H'
    obtain ⟨x3_1, rfl, HA, HK1, ⟨m1, rfl⟩⟩ := hrel
    cases gk with
    | zero => exact absurd HA.out (by simp [tilefarmref7_AreWeights.l0])
    | succ k1 =>
      have H := HA.out
      clear HA
      simp only [tilefarmref7_AreWeights.l0] at H
      by_cases c2 : x3_1 < (l0.length : Int)
      · rw [if_pos c2] at H
        have c2b0 : decide (x3_1 < (l0.length : Int)) = true := decide_eq_true c2
        clear c2
        by_cases c3 : 0 ≤ x3_1
        · rw [if_pos c3] at H
          have c3b0 : decide (0 ≤ x3_1) = true := decide_eq_true c3
          clear c3
          replace H := Option.bind_eq_some_iff.mp H
          obtain ⟨t120, A40, H⟩ := H
          replace H : (if t120 = true then (tilefarmref7_AreWeights.l0 k1 l0 (wrap64 (x3_1 + 1))) else (some false)) = some r := H
          have A4 := Aside0.mk A40
          clear A40
          by_cases c5 : t120 = true
          · subst c5
            have H1 : (tilefarmref7_AreWeights.l0 k1 l0 (wrap64 (x3_1 + 1))) = some r := by rw [if_pos rfl] at H; exact H
            clear H
            have H := H1
            clear H1
            have H' := Aside0.mk H
            clear H
            have p119 : 0 ≤ (x3_1 : Int) := of_decide_eq_true q21_
            have q119 : x3_1 < (l0.length : Int) := of_decide_eq_true q21_
            obtain ⟨ad119, e119, hx119_0⟩ := Kd.at_int HR0.out x3_1 p119 q119
            cases e119
            replace p119 := eq_true p119
            replace q119 := eq_true q119
            go_wp2_with (first | ((with_reducible refine gate_callee (f := 29) rfl ?_); refine goesL_ (some 14) rfl rfl Try.func29 (by kernel_rfl) rfl #[.int .i64 (rd l0 x3_1)] rfl q10_ ?_; (with_reducible refine (tilefarmref7_IsWeight.calls (rd l0 x3_1) true _ A4.out).mono ?_); rintro e w' ⟨rfl, ⟨nd, rfl⟩⟩; refine ⟨_, rfl, ?_⟩))
            go_roundg k1
            case measure => have := HK1.out; omega
            case rel => exact ⟨(wrap64 (x3_1 + 1)), q22_, H', ⟨by have := HK1.out; omega⟩, q20_⟩
          · replace c5 := Bool.eq_false_iff.mpr c5
            subst c5
            have H1 : (some false) = some r := by rw [if_neg (show ¬ (false = true) by decide)] at H; exact H
            clear H
            have H := H1
            clear H1
            obtain rfl := Option.some.inj H
            have p119 : 0 ≤ (x3_1 : Int) := of_decide_eq_true q21_
            have q119 : x3_1 < (l0.length : Int) := of_decide_eq_true q21_
            obtain ⟨ad119, e119, hx119_0⟩ := Kd.at_int HR0.out x3_1 p119 q119
            cases e119
            replace p119 := eq_true p119
            replace q119 := eq_true q119
            go_wp2_with (first | ((with_reducible refine gate_callee (f := 29) rfl ?_); refine goesL_ (some 14) rfl rfl Try.func29 (by kernel_rfl) rfl #[.int .i64 (rd l0 x3_1)] rfl q10_ ?_; (with_reducible refine (tilefarmref7_IsWeight.calls (rd l0 x3_1) false _ A4.out).mono ?_); rintro e w' ⟨rfl, ⟨nd, rfl⟩⟩; refine ⟨_, rfl, ?_⟩))
            go_ret
            exact ⟨q22_, q20_⟩
        · rw [if_neg c3] at H
          exact absurd H (by simp)
      · rw [if_neg c2] at H
        have c2b0 : decide (x3_1 < (l0.length : Int)) = false := decide_eq_false c2
        clear c2
        obtain rfl := Option.some.inj H
        go_wp2
        go_ret
        exact ⟨q22_, q20_⟩


def tilefarmref7_Weights.j0 : Nat → List Int → Bool → Option (Int)
  | 0, _, _ => none
  | k + 1, x0, x10 => if x10 = true then (some 9) else ((tilefarmref7_AreWeights.f k x0).bind fun t121 => (if t121 = true then (some 0) else (some 10)))
def tilefarmref7_Weights.f (k : Nat) (l0 : List Int) : Option (Int) := if (l0.length : Int) = 0 then (tilefarmref7_Weights.j0 k l0 true) else (tilefarmref7_Weights.j0 k l0 (decide ((l0.length : Int) > 81)))
theorem tilefarmref7_Weights.mono_l : ∀ k, (∀ y0 y1, LeO (tilefarmref7_Weights.j0 k y0 y1) (tilefarmref7_Weights.j0 (k + 1) y0 y1))
  | 0 => fun _ _ r h => by simp [tilefarmref7_Weights.j0] at h
  | k + 1 => by
    have ih0 := tilefarmref7_Weights.mono_l k
    · intro y0 y1
      unfold tilefarmref7_Weights.j0
      repeat' first
      | (with_reducible exact ih0 _ _)
      | (with_reducible exact tilefarmref7_AreWeights.mono _ _)
      | (with_reducible exact LeO.refl _)
      | (with_reducible exact LeO.none _)
      | (with_reducible refine LeO.ite ?_ ?_)
      | (with_reducible refine LeO.bind ?_ (fun _ => ?_))
      | exact ih0 _ _
      | exact tilefarmref7_AreWeights.mono _ _
      | exact LeO.none _
      | refine LeO.ite ?_ ?_
      | refine LeO.bind ?_ (fun _ => ?_)
theorem tilefarmref7_Weights.mono : ∀ a0 k, LeO (tilefarmref7_Weights.f k a0) (tilefarmref7_Weights.f (k + 1) a0) := by
  intro a0 k
  have ih0 := tilefarmref7_Weights.mono_l k
  unfold tilefarmref7_Weights.f
  repeat' first
      | (with_reducible exact ih0 _ _)
      | (with_reducible exact tilefarmref7_AreWeights.mono _ _)
      | (with_reducible exact LeO.refl _)
      | (with_reducible exact LeO.none _)
      | (with_reducible refine LeO.ite ?_ ?_)
      | (with_reducible refine LeO.bind ?_ (fun _ => ?_))
      | exact ih0 _ _
      | exact tilefarmref7_AreWeights.mono _ _
      | exact LeO.none _
      | refine LeO.ite ?_ ?_
      | refine LeO.bind ?_ (fun _ => ?_)
set_option maxHeartbeats 8000000 in
set_option maxRecDepth 100000 in
theorem tilefarmref7_Weights.calls (k : Nat) (A0 : Option Addr) (c0 : Nat) (l0 : List Int) (r : Int) (w : World) (hr0 : Kd.C (Kd.int .i64) w A0 l0.length l0) (hc0 : l0.length ≤ c0) (h : tilefarmref7_Weights.f k l0 = some r) :
    Calls Try.prog 14 #[.slice A0 l0.length c0] w fun e w' => e = .returned (.int .i64 r) ∧ Drawn0 w w' := by
  have HR0 := Aside0.mk hr0
  have HC0 := Aside0.mk hc0
  clear hr0 hc0
  have H : (if (l0.length : Int) = 0 then (tilefarmref7_Weights.j0 k l0 true) else (tilefarmref7_Weights.j0 k l0 (decide ((l0.length : Int) > 81)))) = some r := h
  clear h
  have HC2 := Aside0.mk H
  clear H
  go_enter Try.func14, Try.ntmps14
  go_upto_region 1 with (fail)
  go_cut [10] (fun v10 wc => ∃ (kq : Nat) (x10_1 : Bool), v10 = .bool x10_1 ∧ Aside0 (tilefarmref7_Weights.j0 kq l0 x10_1 = some r) ∧ Aside0 (kq ≤ k) ∧ Drawn0 w wc)
  case first =>
    have H := HC2.out
    clear HC2
    by_cases c3 : (l0.length : Int) = 0
    · rw [if_pos c3] at H
      have c3b0 : ((l0.length : Int) == 0) = true := beq_iff_eq.mpr c3
      have c3b1 : ((l0.length : Int) != 0) = false := bne_eq_false_iff_eq.mpr c3
      clear c3
      (first | rw [c3b0] | (simp only [i64_w, i32_w]; rw [c3b0]) | skip)
      have H' := Aside0.mk H
      clear H
      go_wp2
      go_meet
      case rel => exact ⟨_, (true), q22_, H', ⟨by first | omega | exact Nat.le_refl _⟩, q20_⟩
    · rw [if_neg c3] at H
      have c3b0 : ((l0.length : Int) == 0) = false := beq_eq_false_iff_ne.mpr c3
      have c3b1 : ((l0.length : Int) != 0) = true := bne_iff_ne.mpr c3
      have c3b2 : ¬ (l0 = []) := fun h_ => c3 (by rw [h_]; rfl)
      (first | rw [c3b0] | (simp only [i64_w, i32_w]; rw [c3b0]) | skip)
      have H' := Aside0.mk H
      clear H
      go_wp2
      go_meet
      case rel => exact ⟨_, (decide ((l0.length : Int) > 81)), q22_, H', ⟨by first | omega | exact Nat.le_refl _⟩, q20_⟩
  case rest =>
    clear HC2
    try clear c1
    try clear p2
    try clear c3
    try clear c3b0
    try clear c3b1
    try clear c3b2
    obtain ⟨kq, x10_1, rfl, HA, HJ1, ⟨mc1, rfl⟩⟩ := hcut
    cases kq with
    | zero => exact absurd HA.out (by simp [tilefarmref7_Weights.j0])
    | succ kj1 =>
      have H := HA.out
      clear HA
      simp only [tilefarmref7_Weights.j0] at H
      by_cases c4 : x10_1 = true
      · subst c4
        have H1 : (some 9) = some r := by rw [if_pos rfl] at H; exact H
        clear H
        have H := H1
        clear H1
        obtain rfl := Option.some.inj H
        go_wp2
        go_ret
        exact ⟨q22_, q20_⟩
      · replace c4 := Bool.eq_false_iff.mpr c4
        subst c4
        have H1 : ((tilefarmref7_AreWeights.f kj1 l0).bind fun t121 => (if t121 = true then (some 0) else (some 10))) = some r := by rw [if_neg (show ¬ (false = true) by decide)] at H; exact H
        clear H
        have H := H1
        clear H1
        replace H := Option.bind_eq_some_iff.mp H
        obtain ⟨t121, A50, H⟩ := H
        replace H : (if t121 = true then (some 0) else (some 10)) = some r := H
        have A5 := Aside0.mk A50
        clear A50
        by_cases c6 : t121 = true
        · subst c6
          have H1 : (some 0) = some r := by rw [if_pos rfl] at H; exact H
          clear H
          have H := H1
          clear H1
          obtain rfl := Option.some.inj H
          go_wp2_with (first | ((with_reducible refine gate_callee (f := 26) rfl ?_); refine goesL_ (some 12) rfl rfl Try.func26 (by kernel_rfl) rfl #[.slice A0 l0.length c0] rfl q10_ ?_; (with_reducible refine (tilefarmref7_AreWeights.calls kj1 _ _ l0 true _ ?side1 ?side2 A5.out).mono ?_); (case side1 => repeat (first | exact HR0.out | (with_reducible refine Kd.C_alloc ?_ _) | (with_reducible refine Kd.C_drewN ?_ _) | (with_reducible refine Kd.C_drew ?_))); (case side2 => exact HC0.out); rintro e w' ⟨rfl, ⟨nd, rfl⟩⟩; refine ⟨_, rfl, ?_⟩))
          go_ret
          exact ⟨q22_, q20_⟩
        · replace c6 := Bool.eq_false_iff.mpr c6
          subst c6
          have H1 : (some 10) = some r := by rw [if_neg (show ¬ (false = true) by decide)] at H; exact H
          clear H
          have H := H1
          clear H1
          obtain rfl := Option.some.inj H
          go_wp2_with (first | ((with_reducible refine gate_callee (f := 26) rfl ?_); refine goesL_ (some 12) rfl rfl Try.func26 (by kernel_rfl) rfl #[.slice A0 l0.length c0] rfl q10_ ?_; (with_reducible refine (tilefarmref7_AreWeights.calls kj1 _ _ l0 false _ ?side1 ?side2 A5.out).mono ?_); (case side1 => repeat (first | exact HR0.out | (with_reducible refine Kd.C_alloc ?_ _) | (with_reducible refine Kd.C_drewN ?_ _) | (with_reducible refine Kd.C_drew ?_))); (case side2 => exact HC0.out); rintro e w' ⟨rfl, ⟨nd, rfl⟩⟩; refine ⟨_, rfl, ?_⟩))
          go_ret
          exact ⟨q22_, q20_⟩


def tilefarmref7_Acc.f (a0 : Int) : Option (Bool) := if a0 ≥ (-17592186044416) then (some (decide (a0 ≤ 17592186044416))) else (some false)
set_option maxHeartbeats 8000000 in
set_option maxRecDepth 100000 in
theorem tilefarmref7_Acc.calls (a0 : Int) (r : Bool) (w : World) (h : tilefarmref7_Acc.f a0 = some r) :
    Calls Try.prog 25 #[.int .i64 a0] w fun e w' => e = .returned (.bool r) ∧ Drawn0 w w' := by
  have H : (if a0 ≥ (-17592186044416) then (some (decide (a0 ≤ 17592186044416))) else (some false)) = some r := h
  clear h
  by_cases c2 : a0 ≥ (-17592186044416)
  · rw [if_pos c2] at H
    have c2b0 : decide ((-17592186044416) ≤ a0) = true := decide_eq_true c2
    clear c2
    obtain rfl := Option.some.inj H
    go_enter Try.func25, Try.ntmps25
    go_wp2
    go_ret
    exact ⟨q22_, q20_⟩
  · rw [if_neg c2] at H
    have c2b0 : decide ((-17592186044416) ≤ a0) = false := decide_eq_false c2
    clear c2
    obtain rfl := Option.some.inj H
    go_enter Try.func25, Try.ntmps25
    go_wp2
    go_ret
    exact ⟨q22_, q20_⟩


mutual
def tilefarmref7_Bounds.j0 : Nat → List Int → Int → Int → Bool → Option (Int × Int × Bool)
  | 0, _, _, _, _ => none
  | k + 1, x0, x1, x2, x29 => if x29 = true then (some (0, 0, false)) else (tilefarmref7_Bounds.l0 k x0 x1 x2 0 0 0)
def tilefarmref7_Bounds.l0 : Nat → List Int → Int → Int → Int → Int → Int → Option (Int × Int × Bool)
  | 0, _, _, _, _, _, _ => none
  | k + 1, x0, x1, x2, x9, x10, x11 => if x11 < (x0.length : Int) then (if 0 ≤ x11 then (tilefarmref7_Bounds.l0 k x0 x1 x2 (wrap64 (x9 + (mn (wrap64 ((rd x0 x11) * x1)) (wrap64 ((rd x0 x11) * x2))))) (wrap64 (x10 + (mx (wrap64 ((rd x0 x11) * x1)) (wrap64 ((rd x0 x11) * x2))))) (wrap64 (x11 + 1))) else (none)) else ((tilefarmref7_Acc.f x9).bind fun t125 => (if t125 = true then ((tilefarmref7_Acc.f x10).bind fun t126 => (if t126 = true then (some (x9, x10, true)) else (some (0, 0, false)))) else (some (0, 0, false))))
end
def tilefarmref7_Bounds.f (k : Nat) (l0 : List Int) (a1 : Int) (a2 : Int) : Option (Int × Int × Bool) := (tilefarmref7_Weights.f k l0).bind fun t122 => (if t122 = 0 then (if a1 > a2 then (tilefarmref7_Bounds.j0 k l0 a1 a2 true) else (if a1 < (-68719476736) then (tilefarmref7_Bounds.j0 k l0 a1 a2 true) else (tilefarmref7_Bounds.j0 k l0 a1 a2 (decide (a2 > 68719476736))))) else (tilefarmref7_Bounds.j0 k l0 a1 a2 true))
theorem tilefarmref7_Bounds.mono_l : ∀ k, (∀ y0 y1 y2 y3, LeO (tilefarmref7_Bounds.j0 k y0 y1 y2 y3) (tilefarmref7_Bounds.j0 (k + 1) y0 y1 y2 y3)) ∧ (∀ y0 y1 y2 y3 y4 y5, LeO (tilefarmref7_Bounds.l0 k y0 y1 y2 y3 y4 y5) (tilefarmref7_Bounds.l0 (k + 1) y0 y1 y2 y3 y4 y5))
  | 0 => ⟨fun _ _ _ _ r h => by simp [tilefarmref7_Bounds.j0] at h, fun _ _ _ _ _ _ r h => by simp [tilefarmref7_Bounds.l0] at h⟩
  | k + 1 => by
    obtain ⟨ih0, ih1⟩ := tilefarmref7_Bounds.mono_l k
    refine ⟨?_, ?_⟩
    · intro y0 y1 y2 y3
      unfold tilefarmref7_Bounds.j0
      repeat' first
      | (with_reducible exact ih0 _ _ _ _)
      | (with_reducible exact ih1 _ _ _ _ _ _)
      | (with_reducible exact tilefarmref7_Weights.mono _ _)
      | (with_reducible exact LeO.refl _)
      | (with_reducible exact LeO.none _)
      | (with_reducible refine LeO.ite ?_ ?_)
      | (with_reducible refine LeO.bind ?_ (fun _ => ?_))
      | exact ih0 _ _ _ _
      | exact ih1 _ _ _ _ _ _
      | exact tilefarmref7_Weights.mono _ _
      | exact LeO.none _
      | refine LeO.ite ?_ ?_
      | refine LeO.bind ?_ (fun _ => ?_)
    · intro y0 y1 y2 y3 y4 y5
      unfold tilefarmref7_Bounds.l0
      repeat' first
      | (with_reducible exact ih0 _ _ _ _)
      | (with_reducible exact ih1 _ _ _ _ _ _)
      | (with_reducible exact tilefarmref7_Weights.mono _ _)
      | (with_reducible exact LeO.refl _)
      | (with_reducible exact LeO.none _)
      | (with_reducible refine LeO.ite ?_ ?_)
      | (with_reducible refine LeO.bind ?_ (fun _ => ?_))
      | exact ih0 _ _ _ _
      | exact ih1 _ _ _ _ _ _
      | exact tilefarmref7_Weights.mono _ _
      | exact LeO.none _
      | refine LeO.ite ?_ ?_
      | refine LeO.bind ?_ (fun _ => ?_)
theorem tilefarmref7_Bounds.mono : ∀ a0 a1 a2 k, LeO (tilefarmref7_Bounds.f k a0 a1 a2) (tilefarmref7_Bounds.f (k + 1) a0 a1 a2) := by
  intro a0 a1 a2 k
  obtain ⟨ih0, ih1⟩ := tilefarmref7_Bounds.mono_l k
  unfold tilefarmref7_Bounds.f
  repeat' first
      | (with_reducible exact ih0 _ _ _ _)
      | (with_reducible exact ih1 _ _ _ _ _ _)
      | (with_reducible exact tilefarmref7_Weights.mono _ _)
      | (with_reducible exact LeO.refl _)
      | (with_reducible exact LeO.none _)
      | (with_reducible refine LeO.ite ?_ ?_)
      | (with_reducible refine LeO.bind ?_ (fun _ => ?_))
      | exact ih0 _ _ _ _
      | exact ih1 _ _ _ _ _ _
      | exact tilefarmref7_Weights.mono _ _
      | exact LeO.none _
      | refine LeO.ite ?_ ?_
      | refine LeO.bind ?_ (fun _ => ?_)
set_option maxHeartbeats 8000000 in
set_option maxRecDepth 100000 in
theorem tilefarmref7_Bounds.calls (k : Nat) (A0 : Option Addr) (c0 : Nat) (l0 : List Int) (a1 : Int) (a2 : Int) (r1 : Int) (r2 : Int) (r3 : Bool) (w : World) (hr0 : Kd.C (Kd.int .i64) w A0 l0.length l0) (hc0 : l0.length ≤ c0) (h : tilefarmref7_Bounds.f k l0 a1 a2 = some (r1, r2, r3)) :
    Calls Try.prog 12 #[.slice A0 l0.length c0, .int .i64 a1, .int .i64 a2] w fun e w' => e = .returned (.tuple #[.int .i64 r1, .int .i64 r2, .bool r3]) ∧ Below w.heap.size w w' := by
  have HR0 := Aside0.mk hr0
  have HC0 := Aside0.mk hc0
  clear hr0 hc0
  have HB := Aside0.mk (Below.refl w.heap.size w)
  have H : ((tilefarmref7_Weights.f k l0).bind fun t122 => (if t122 = 0 then (if a1 > a2 then (tilefarmref7_Bounds.j0 k l0 a1 a2 true) else (if a1 < (-68719476736) then (tilefarmref7_Bounds.j0 k l0 a1 a2 true) else (tilefarmref7_Bounds.j0 k l0 a1 a2 (decide (a2 > 68719476736))))) else (tilefarmref7_Bounds.j0 k l0 a1 a2 true))) = some (r1, r2, r3) := h
  clear h
  have HC4 := Aside0.mk H
  clear H
  go_enter Try.func12, Try.ntmps12
  go_upto_region 1 with (fail)
  repeat (go_quiet (fail); go_upto_region 1 with (fail))
  go_cut [29] (fun v29 wc => ∃ (kq : Nat) (x29_3 : Bool), v29 = .bool x29_3 ∧ Aside0 (tilefarmref7_Bounds.j0 kq l0 a1 a2 x29_3 = some (r1, r2, r3)) ∧ Aside0 (kq ≤ k) ∧ Aside0 (Below w.heap.size w wc))
  case first =>
    have H := HC4.out
    clear HC4
    replace H := Option.bind_eq_some_iff.mp H
    obtain ⟨t122, A50, H⟩ := H
    replace H : (if t122 = 0 then (if a1 > a2 then (tilefarmref7_Bounds.j0 k l0 a1 a2 true) else (if a1 < (-68719476736) then (tilefarmref7_Bounds.j0 k l0 a1 a2 true) else (tilefarmref7_Bounds.j0 k l0 a1 a2 (decide (a2 > 68719476736))))) else (tilefarmref7_Bounds.j0 k l0 a1 a2 true)) = some (r1, r2, r3) := H
    have A5 := Aside0.mk A50
    clear A50
    by_cases c6 : t122 = 0
    · rw [if_pos c6] at H
      have c6b0 : (t122 == 0) = true := beq_iff_eq.mpr c6
      have c6b1 : (t122 != 0) = false := bne_eq_false_iff_eq.mpr c6
      clear c6
      (first | rw [c6b0] | (simp only [i64_w, i32_w]; rw [c6b0]) | skip)
      by_cases c7 : a1 > a2
      · rw [if_pos c7] at H
        have c7b0 : decide (a2 < a1) = true := decide_eq_true c7
        clear c7
        have H' := Aside0.mk H
        clear H
        go_wp2_with (first | (go_at_call 14; (with_reducible refine (tilefarmref7_Weights.calls k _ _ l0 t122 _ ?side1 ?side2 A5.out).mono ?_); (case side1 => repeat (first | exact (Kd.C_below HR0.out HB.out) | (with_reducible refine Kd.C_alloc ?_ _) | (with_reducible refine Kd.C_drewN ?_ _) | (with_reducible refine Kd.C_drew ?_))); (case side2 => exact HC0.out); rintro e w' ⟨rfl, ⟨nd, rfl⟩⟩; (try first | exact ⟨rfl, _, World.drewN_drewN _ _ _⟩ | exact ⟨rfl, _, Eq.trans (World.drewN_drewN _ _ _) (congrArg (World.drewN _) (Nat.add_assoc _ _ _))⟩)))
        repeat (go_quiet (first | (go_at_call 14; (with_reducible refine (tilefarmref7_Weights.calls k _ _ l0 t122 _ ?side1 ?side2 A5.out).mono ?_); (case side1 => repeat (first | exact (Kd.C_below HR0.out HB.out) | (with_reducible refine Kd.C_alloc ?_ _) | (with_reducible refine Kd.C_drewN ?_ _) | (with_reducible refine Kd.C_drew ?_))); (case side2 => exact HC0.out); rintro e w' ⟨rfl, ⟨nd, rfl⟩⟩; (try first | exact ⟨rfl, _, World.drewN_drewN _ _ _⟩ | exact ⟨rfl, _, Eq.trans (World.drewN_drewN _ _ _) (congrArg (World.drewN _) (Nat.add_assoc _ _ _))⟩))); try go_wp2_with (first | (go_at_call 14; (with_reducible refine (tilefarmref7_Weights.calls k _ _ l0 t122 _ ?side1 ?side2 A5.out).mono ?_); (case side1 => repeat (first | exact (Kd.C_below HR0.out HB.out) | (with_reducible refine Kd.C_alloc ?_ _) | (with_reducible refine Kd.C_drewN ?_ _) | (with_reducible refine Kd.C_drew ?_))); (case side2 => exact HC0.out); rintro e w' ⟨rfl, ⟨nd, rfl⟩⟩; (try first | exact ⟨rfl, _, World.drewN_drewN _ _ _⟩ | exact ⟨rfl, _, Eq.trans (World.drewN_drewN _ _ _) (congrArg (World.drewN _) (Nat.add_assoc _ _ _))⟩))))
        go_meet
        case rel => exact ⟨_, (true), q22_, H', ⟨by first | omega | exact Nat.le_refl _⟩, ⟨q11_⟩⟩
      · rw [if_neg c7] at H
        have c7b0 : decide (a2 < a1) = false := decide_eq_false c7
        clear c7
        by_cases c8 : a1 < (-68719476736)
        · rw [if_pos c8] at H
          have c8b0 : decide (a1 < (-68719476736)) = true := decide_eq_true c8
          clear c8
          have H' := Aside0.mk H
          clear H
          go_wp2_with (first | (go_at_call 14; (with_reducible refine (tilefarmref7_Weights.calls k _ _ l0 t122 _ ?side1 ?side2 A5.out).mono ?_); (case side1 => repeat (first | exact (Kd.C_below HR0.out HB.out) | (with_reducible refine Kd.C_alloc ?_ _) | (with_reducible refine Kd.C_drewN ?_ _) | (with_reducible refine Kd.C_drew ?_))); (case side2 => exact HC0.out); rintro e w' ⟨rfl, ⟨nd, rfl⟩⟩; (try first | exact ⟨rfl, _, World.drewN_drewN _ _ _⟩ | exact ⟨rfl, _, Eq.trans (World.drewN_drewN _ _ _) (congrArg (World.drewN _) (Nat.add_assoc _ _ _))⟩)))
          repeat (go_quiet (first | (go_at_call 14; (with_reducible refine (tilefarmref7_Weights.calls k _ _ l0 t122 _ ?side1 ?side2 A5.out).mono ?_); (case side1 => repeat (first | exact (Kd.C_below HR0.out HB.out) | (with_reducible refine Kd.C_alloc ?_ _) | (with_reducible refine Kd.C_drewN ?_ _) | (with_reducible refine Kd.C_drew ?_))); (case side2 => exact HC0.out); rintro e w' ⟨rfl, ⟨nd, rfl⟩⟩; (try first | exact ⟨rfl, _, World.drewN_drewN _ _ _⟩ | exact ⟨rfl, _, Eq.trans (World.drewN_drewN _ _ _) (congrArg (World.drewN _) (Nat.add_assoc _ _ _))⟩))); try go_wp2_with (first | (go_at_call 14; (with_reducible refine (tilefarmref7_Weights.calls k _ _ l0 t122 _ ?side1 ?side2 A5.out).mono ?_); (case side1 => repeat (first | exact (Kd.C_below HR0.out HB.out) | (with_reducible refine Kd.C_alloc ?_ _) | (with_reducible refine Kd.C_drewN ?_ _) | (with_reducible refine Kd.C_drew ?_))); (case side2 => exact HC0.out); rintro e w' ⟨rfl, ⟨nd, rfl⟩⟩; (try first | exact ⟨rfl, _, World.drewN_drewN _ _ _⟩ | exact ⟨rfl, _, Eq.trans (World.drewN_drewN _ _ _) (congrArg (World.drewN _) (Nat.add_assoc _ _ _))⟩))))
          go_meet
          case rel => exact ⟨_, (true), q22_, H', ⟨by first | omega | exact Nat.le_refl _⟩, ⟨q11_⟩⟩
        · rw [if_neg c8] at H
          have c8b0 : decide (a1 < (-68719476736)) = false := decide_eq_false c8
          clear c8
          have H' := Aside0.mk H
          clear H
          go_wp2_with (first | (go_at_call 14; (with_reducible refine (tilefarmref7_Weights.calls k _ _ l0 t122 _ ?side1 ?side2 A5.out).mono ?_); (case side1 => repeat (first | exact (Kd.C_below HR0.out HB.out) | (with_reducible refine Kd.C_alloc ?_ _) | (with_reducible refine Kd.C_drewN ?_ _) | (with_reducible refine Kd.C_drew ?_))); (case side2 => exact HC0.out); rintro e w' ⟨rfl, ⟨nd, rfl⟩⟩; (try first | exact ⟨rfl, _, World.drewN_drewN _ _ _⟩ | exact ⟨rfl, _, Eq.trans (World.drewN_drewN _ _ _) (congrArg (World.drewN _) (Nat.add_assoc _ _ _))⟩)))
          repeat (go_quiet (first | (go_at_call 14; (with_reducible refine (tilefarmref7_Weights.calls k _ _ l0 t122 _ ?side1 ?side2 A5.out).mono ?_); (case side1 => repeat (first | exact (Kd.C_below HR0.out HB.out) | (with_reducible refine Kd.C_alloc ?_ _) | (with_reducible refine Kd.C_drewN ?_ _) | (with_reducible refine Kd.C_drew ?_))); (case side2 => exact HC0.out); rintro e w' ⟨rfl, ⟨nd, rfl⟩⟩; (try first | exact ⟨rfl, _, World.drewN_drewN _ _ _⟩ | exact ⟨rfl, _, Eq.trans (World.drewN_drewN _ _ _) (congrArg (World.drewN _) (Nat.add_assoc _ _ _))⟩))); try go_wp2_with (first | (go_at_call 14; (with_reducible refine (tilefarmref7_Weights.calls k _ _ l0 t122 _ ?side1 ?side2 A5.out).mono ?_); (case side1 => repeat (first | exact (Kd.C_below HR0.out HB.out) | (with_reducible refine Kd.C_alloc ?_ _) | (with_reducible refine Kd.C_drewN ?_ _) | (with_reducible refine Kd.C_drew ?_))); (case side2 => exact HC0.out); rintro e w' ⟨rfl, ⟨nd, rfl⟩⟩; (try first | exact ⟨rfl, _, World.drewN_drewN _ _ _⟩ | exact ⟨rfl, _, Eq.trans (World.drewN_drewN _ _ _) (congrArg (World.drewN _) (Nat.add_assoc _ _ _))⟩))))
          go_meet
          case rel => exact ⟨_, (decide (a2 > 68719476736)), q22_, H', ⟨by first | omega | exact Nat.le_refl _⟩, ⟨q11_⟩⟩
    · rw [if_neg c6] at H
      have c6b0 : (t122 == 0) = false := beq_eq_false_iff_ne.mpr c6
      have c6b1 : (t122 != 0) = true := bne_iff_ne.mpr c6
      (first | rw [c6b0] | (simp only [i64_w, i32_w]; rw [c6b0]) | skip)
      have H' := Aside0.mk H
      clear H
      go_wp2_with (first | (go_at_call 14; (with_reducible refine (tilefarmref7_Weights.calls k _ _ l0 t122 _ ?side1 ?side2 A5.out).mono ?_); (case side1 => repeat (first | exact (Kd.C_below HR0.out HB.out) | (with_reducible refine Kd.C_alloc ?_ _) | (with_reducible refine Kd.C_drewN ?_ _) | (with_reducible refine Kd.C_drew ?_))); (case side2 => exact HC0.out); rintro e w' ⟨rfl, ⟨nd, rfl⟩⟩; (try first | exact ⟨rfl, _, World.drewN_drewN _ _ _⟩ | exact ⟨rfl, _, Eq.trans (World.drewN_drewN _ _ _) (congrArg (World.drewN _) (Nat.add_assoc _ _ _))⟩)))
      repeat (go_quiet (first | (go_at_call 14; (with_reducible refine (tilefarmref7_Weights.calls k _ _ l0 t122 _ ?side1 ?side2 A5.out).mono ?_); (case side1 => repeat (first | exact (Kd.C_below HR0.out HB.out) | (with_reducible refine Kd.C_alloc ?_ _) | (with_reducible refine Kd.C_drewN ?_ _) | (with_reducible refine Kd.C_drew ?_))); (case side2 => exact HC0.out); rintro e w' ⟨rfl, ⟨nd, rfl⟩⟩; (try first | exact ⟨rfl, _, World.drewN_drewN _ _ _⟩ | exact ⟨rfl, _, Eq.trans (World.drewN_drewN _ _ _) (congrArg (World.drewN _) (Nat.add_assoc _ _ _))⟩))); try go_wp2_with (first | (go_at_call 14; (with_reducible refine (tilefarmref7_Weights.calls k _ _ l0 t122 _ ?side1 ?side2 A5.out).mono ?_); (case side1 => repeat (first | exact (Kd.C_below HR0.out HB.out) | (with_reducible refine Kd.C_alloc ?_ _) | (with_reducible refine Kd.C_drewN ?_ _) | (with_reducible refine Kd.C_drew ?_))); (case side2 => exact HC0.out); rintro e w' ⟨rfl, ⟨nd, rfl⟩⟩; (try first | exact ⟨rfl, _, World.drewN_drewN _ _ _⟩ | exact ⟨rfl, _, Eq.trans (World.drewN_drewN _ _ _) (congrArg (World.drewN _) (Nat.add_assoc _ _ _))⟩))))
      go_meet
      case rel => exact ⟨_, (true), q22_, H', ⟨by first | omega | exact Nat.le_refl _⟩, ⟨q11_⟩⟩
  case rest =>
    clear HC4
    try clear c1
    try clear p2
    try clear c6
    try clear c6b0
    try clear c6b1
    try clear c7
    try clear c7b0
    try clear c8
    try clear c8b0
    obtain ⟨kq, x29_3, rfl, HA, HJ3, HB⟩ := hcut
    cases kq with
    | zero => exact absurd HA.out (by simp [tilefarmref7_Bounds.j0])
    | succ kj3 =>
      have H := HA.out
      clear HA
      simp only [tilefarmref7_Bounds.j0] at H
      by_cases c9 : x29_3 = true
      · subst c9
        have H1 : (some (0, 0, false)) = some (r1, r2, r3) := by rw [if_pos rfl] at H; exact H
        clear H
        have H := H1
        clear H1
        simp only [Option.some.injEq, Prod.mk.injEq] at H
        obtain ⟨rfl, rfl, rfl⟩ := H
        go_wp2
        repeat (go_quiet (fail); try go_wp2)
        go_ret3
        exact ⟨q18_, q11_⟩
      · replace c9 := Bool.eq_false_iff.mpr c9
        subst c9
        have H1 : (tilefarmref7_Bounds.l0 kj3 l0 a1 a2 0 0 0) = some (r1, r2, r3) := by rw [if_neg (show ¬ (false = true) by decide)] at H; exact H
        clear H
        have H := H1
        clear H1
        have H' := Aside0.mk H
        clear H
        go_wp2
        repeat (go_quiet (fail); try go_wp2)
        go_loopg [9, 10, 11] kj3 (fun kq v9 v10 v11 w' => ∃ (x9_2 : Int) (x10_2 : Int) (x11_2 : Int), v9 = .int .i64 x9_2 ∧ v10 = .int .i64 x10_2 ∧ v11 = .int .i64 x11_2 ∧ Aside0 (tilefarmref7_Bounds.l0 kq l0 a1 a2 x9_2 x10_2 x11_2 = some (r1, r2, r3)) ∧ Aside0 (kq ≤ kj3) ∧ Aside0 (Below w.heap.size w w'))
        case atStart => exact ⟨(0), (0), (0), q22_, q22_, q22_, H', ⟨Nat.le_refl _⟩, ⟨q11_⟩⟩
        case round =>
          clear H'
          try clear c1
          try clear p2
          try clear c6
          try clear c6b0
          try clear c6b1
          try clear c7
          try clear c7b0
          try clear c8
          try clear c8b0
          try clear c9
          try clear p2
          obtain ⟨x9_2, x10_2, x11_2, rfl, rfl, rfl, HA, HK2, HB⟩ := hrel
          cases gk with
          | zero => exact absurd HA.out (by simp [tilefarmref7_Bounds.l0])
          | succ k2 =>
            have H := HA.out
            clear HA
            simp only [tilefarmref7_Bounds.l0] at H
            by_cases c10 : x11_2 < (l0.length : Int)
            · rw [if_pos c10] at H
              have c10b0 : decide (x11_2 < (l0.length : Int)) = true := decide_eq_true c10
              clear c10
              by_cases c11 : 0 ≤ x11_2
              · rw [if_pos c11] at H
                have c11b0 : decide (0 ≤ x11_2) = true := decide_eq_true c11
                clear c11
                obtain ⟨ji12, hji12⟩ : ∃ j_ : Int, (mn (wrap64 ((rd l0 x11_2) * a1)) (wrap64 ((rd l0 x11_2) * a2))) = j_ := ⟨_, rfl⟩
                replace H : (tilefarmref7_Bounds.l0 k2 l0 a1 a2 (wrap64 (x9_2 + (ji12))) (wrap64 (x10_2 + (mx (wrap64 ((rd l0 x11_2) * a1)) (wrap64 ((rd l0 x11_2) * a2))))) (wrap64 (x11_2 + 1))) = some (r1, r2, r3) := by first | (rw [hji12] at H; exact H) | (simp only [hji12] at H ⊢; exact H)
                have hji12_ : (if (wrap64 ((rd l0 x11_2) * a2)) < (wrap64 ((rd l0 x11_2) * a1)) then (wrap64 ((rd l0 x11_2) * a2)) else (wrap64 ((rd l0 x11_2) * a1))) = ji12 := hji12
                obtain ⟨ji13, hji13⟩ : ∃ j_ : Int, (mx (wrap64 ((rd l0 x11_2) * a1)) (wrap64 ((rd l0 x11_2) * a2))) = j_ := ⟨_, rfl⟩
                replace H : (tilefarmref7_Bounds.l0 k2 l0 a1 a2 (wrap64 (x9_2 + (ji12))) (wrap64 (x10_2 + (ji13))) (wrap64 (x11_2 + 1))) = some (r1, r2, r3) := by first | (rw [hji13] at H; exact H) | (simp only [hji13] at H ⊢; exact H)
                have hji13_ : (if (wrap64 ((rd l0 x11_2) * a1)) < (wrap64 ((rd l0 x11_2) * a2)) then (wrap64 ((rd l0 x11_2) * a2)) else (wrap64 ((rd l0 x11_2) * a1))) = ji13 := hji13
                have H' := Aside0.mk H
                clear H
                have p123 : 0 ≤ (x11_2 : Int) := of_decide_eq_true q21_
                have q123 : x11_2 < (l0.length : Int) := of_decide_eq_true q21_
                obtain ⟨ad123, e123, hx123_0⟩ := Kd.at_int HR0.out x11_2 p123 q123
                cases e123
                replace hx123_0 := (HB.out.cell (World.block_lt_of_cell? w _ hx123_0)).trans hx123_0
                replace p123 := eq_true p123
                replace q123 := eq_true q123
                have p124 : 0 ≤ (x11_2 : Int) := of_decide_eq_true q21_
                have q124 : x11_2 < (l0.length : Int) := of_decide_eq_true q21_
                obtain ⟨ad124, e124, hx124_0⟩ := Kd.at_int HR0.out x11_2 p124 q124
                obtain rfl : ad123 = ad124 := (by injection e124)
                replace hx124_0 := (HB.out.cell (World.block_lt_of_cell? w _ hx124_0)).trans hx124_0
                replace p124 := eq_true p124
                replace q124 := eq_true q124
                go_wp2
                repeat (go_quiet (fail); try go_wp2)
                go_roundg k2
                case measure => have := HJ3.out; have := HK2.out; omega
                case rel => exact ⟨(wrap64 (x9_2 + (ji12))), (wrap64 (x10_2 + (ji13))), (wrap64 (x11_2 + 1)), (by first | rfl | (simp; done) | (simp only [← hji12] <;> (first | rfl | simp)) | (simp [*]; done)), (by first | rfl | (simp; done) | (simp only [← hji13] <;> (first | rfl | simp)) | (simp [*]; done)), q22_, (by first | exact H' | ((try (rw [hji12])); (try (rw [hji13])); exact H')), ⟨by have := HJ3.out; have := HK2.out; omega⟩, ⟨q11_⟩⟩
              · rw [if_neg c11] at H
                exact absurd H (by simp)
            · rw [if_neg c10] at H
              have c10b0 : decide (x11_2 < (l0.length : Int)) = false := decide_eq_false c10
              clear c10
              replace H := Option.bind_eq_some_iff.mp H
              obtain ⟨t125, A140, H⟩ := H
              replace H : (if t125 = true then ((tilefarmref7_Acc.f x10_2).bind fun t126 => (if t126 = true then (some (x9_2, x10_2, true)) else (some (0, 0, false)))) else (some (0, 0, false))) = some (r1, r2, r3) := H
              have A14 := Aside0.mk A140
              clear A140
              by_cases c15 : t125 = true
              · subst c15
                have H1 : ((tilefarmref7_Acc.f x10_2).bind fun t126 => (if t126 = true then (some (x9_2, x10_2, true)) else (some (0, 0, false)))) = some (r1, r2, r3) := by rw [if_pos rfl] at H; exact H
                clear H
                have H := H1
                clear H1
                replace H := Option.bind_eq_some_iff.mp H
                obtain ⟨t126, A160, H⟩ := H
                replace H : (if t126 = true then (some (x9_2, x10_2, true)) else (some (0, 0, false))) = some (r1, r2, r3) := H
                have A16 := Aside0.mk A160
                clear A160
                by_cases c17 : t126 = true
                · subst c17
                  have H1 : (some (x9_2, x10_2, true)) = some (r1, r2, r3) := by rw [if_pos rfl] at H; exact H
                  clear H
                  have H := H1
                  clear H1
                  simp only [Option.some.injEq, Prod.mk.injEq] at H
                  obtain ⟨rfl, rfl, rfl⟩ := H
                  go_wp2_with (first | (go_at_call 25; (with_reducible refine (tilefarmref7_Acc.calls x9_2 true _ A14.out).mono ?_); rintro e w' ⟨rfl, ⟨nd, rfl⟩⟩; (try first | exact ⟨rfl, _, World.drewN_drewN _ _ _⟩ | exact ⟨rfl, _, Eq.trans (World.drewN_drewN _ _ _) (congrArg (World.drewN _) (Nat.add_assoc _ _ _))⟩)) | (go_at_call 25; (with_reducible refine (tilefarmref7_Acc.calls x10_2 true _ A16.out).mono ?_); rintro e w' ⟨rfl, ⟨nd, rfl⟩⟩; (try first | exact ⟨rfl, _, World.drewN_drewN _ _ _⟩ | exact ⟨rfl, _, Eq.trans (World.drewN_drewN _ _ _) (congrArg (World.drewN _) (Nat.add_assoc _ _ _))⟩)))
                  repeat (go_quiet (first | (go_at_call 25; (with_reducible refine (tilefarmref7_Acc.calls x9_2 true _ A14.out).mono ?_); rintro e w' ⟨rfl, ⟨nd, rfl⟩⟩; (try first | exact ⟨rfl, _, World.drewN_drewN _ _ _⟩ | exact ⟨rfl, _, Eq.trans (World.drewN_drewN _ _ _) (congrArg (World.drewN _) (Nat.add_assoc _ _ _))⟩)) | (go_at_call 25; (with_reducible refine (tilefarmref7_Acc.calls x10_2 true _ A16.out).mono ?_); rintro e w' ⟨rfl, ⟨nd, rfl⟩⟩; (try first | exact ⟨rfl, _, World.drewN_drewN _ _ _⟩ | exact ⟨rfl, _, Eq.trans (World.drewN_drewN _ _ _) (congrArg (World.drewN _) (Nat.add_assoc _ _ _))⟩))); try go_wp2_with (first | (go_at_call 25; (with_reducible refine (tilefarmref7_Acc.calls x9_2 true _ A14.out).mono ?_); rintro e w' ⟨rfl, ⟨nd, rfl⟩⟩; (try first | exact ⟨rfl, _, World.drewN_drewN _ _ _⟩ | exact ⟨rfl, _, Eq.trans (World.drewN_drewN _ _ _) (congrArg (World.drewN _) (Nat.add_assoc _ _ _))⟩)) | (go_at_call 25; (with_reducible refine (tilefarmref7_Acc.calls x10_2 true _ A16.out).mono ?_); rintro e w' ⟨rfl, ⟨nd, rfl⟩⟩; (try first | exact ⟨rfl, _, World.drewN_drewN _ _ _⟩ | exact ⟨rfl, _, Eq.trans (World.drewN_drewN _ _ _) (congrArg (World.drewN _) (Nat.add_assoc _ _ _))⟩))))
                  go_ret3
                  exact ⟨q18_, q11_⟩
                · replace c17 := Bool.eq_false_iff.mpr c17
                  subst c17
                  have H1 : (some (0, 0, false)) = some (r1, r2, r3) := by rw [if_neg (show ¬ (false = true) by decide)] at H; exact H
                  clear H
                  have H := H1
                  clear H1
                  simp only [Option.some.injEq, Prod.mk.injEq] at H
                  obtain ⟨rfl, rfl, rfl⟩ := H
                  go_wp2_with (first | (go_at_call 25; (with_reducible refine (tilefarmref7_Acc.calls x9_2 true _ A14.out).mono ?_); rintro e w' ⟨rfl, ⟨nd, rfl⟩⟩; (try first | exact ⟨rfl, _, World.drewN_drewN _ _ _⟩ | exact ⟨rfl, _, Eq.trans (World.drewN_drewN _ _ _) (congrArg (World.drewN _) (Nat.add_assoc _ _ _))⟩)) | (go_at_call 25; (with_reducible refine (tilefarmref7_Acc.calls x10_2 false _ A16.out).mono ?_); rintro e w' ⟨rfl, ⟨nd, rfl⟩⟩; (try first | exact ⟨rfl, _, World.drewN_drewN _ _ _⟩ | exact ⟨rfl, _, Eq.trans (World.drewN_drewN _ _ _) (congrArg (World.drewN _) (Nat.add_assoc _ _ _))⟩)))
                  repeat (go_quiet (first | (go_at_call 25; (with_reducible refine (tilefarmref7_Acc.calls x9_2 true _ A14.out).mono ?_); rintro e w' ⟨rfl, ⟨nd, rfl⟩⟩; (try first | exact ⟨rfl, _, World.drewN_drewN _ _ _⟩ | exact ⟨rfl, _, Eq.trans (World.drewN_drewN _ _ _) (congrArg (World.drewN _) (Nat.add_assoc _ _ _))⟩)) | (go_at_call 25; (with_reducible refine (tilefarmref7_Acc.calls x10_2 false _ A16.out).mono ?_); rintro e w' ⟨rfl, ⟨nd, rfl⟩⟩; (try first | exact ⟨rfl, _, World.drewN_drewN _ _ _⟩ | exact ⟨rfl, _, Eq.trans (World.drewN_drewN _ _ _) (congrArg (World.drewN _) (Nat.add_assoc _ _ _))⟩))); try go_wp2_with (first | (go_at_call 25; (with_reducible refine (tilefarmref7_Acc.calls x9_2 true _ A14.out).mono ?_); rintro e w' ⟨rfl, ⟨nd, rfl⟩⟩; (try first | exact ⟨rfl, _, World.drewN_drewN _ _ _⟩ | exact ⟨rfl, _, Eq.trans (World.drewN_drewN _ _ _) (congrArg (World.drewN _) (Nat.add_assoc _ _ _))⟩)) | (go_at_call 25; (with_reducible refine (tilefarmref7_Acc.calls x10_2 false _ A16.out).mono ?_); rintro e w' ⟨rfl, ⟨nd, rfl⟩⟩; (try first | exact ⟨rfl, _, World.drewN_drewN _ _ _⟩ | exact ⟨rfl, _, Eq.trans (World.drewN_drewN _ _ _) (congrArg (World.drewN _) (Nat.add_assoc _ _ _))⟩))))
                  go_ret3
                  exact ⟨q18_, q11_⟩
              · replace c15 := Bool.eq_false_iff.mpr c15
                subst c15
                have H1 : (some (0, 0, false)) = some (r1, r2, r3) := by rw [if_neg (show ¬ (false = true) by decide)] at H; exact H
                clear H
                have H := H1
                clear H1
                simp only [Option.some.injEq, Prod.mk.injEq] at H
                obtain ⟨rfl, rfl, rfl⟩ := H
                go_wp2_with (first | (go_at_call 25; (with_reducible refine (tilefarmref7_Acc.calls x9_2 false _ A14.out).mono ?_); rintro e w' ⟨rfl, ⟨nd, rfl⟩⟩; (try first | exact ⟨rfl, _, World.drewN_drewN _ _ _⟩ | exact ⟨rfl, _, Eq.trans (World.drewN_drewN _ _ _) (congrArg (World.drewN _) (Nat.add_assoc _ _ _))⟩)))
                repeat (go_quiet (first | (go_at_call 25; (with_reducible refine (tilefarmref7_Acc.calls x9_2 false _ A14.out).mono ?_); rintro e w' ⟨rfl, ⟨nd, rfl⟩⟩; (try first | exact ⟨rfl, _, World.drewN_drewN _ _ _⟩ | exact ⟨rfl, _, Eq.trans (World.drewN_drewN _ _ _) (congrArg (World.drewN _) (Nat.add_assoc _ _ _))⟩))); try go_wp2_with (first | (go_at_call 25; (with_reducible refine (tilefarmref7_Acc.calls x9_2 false _ A14.out).mono ?_); rintro e w' ⟨rfl, ⟨nd, rfl⟩⟩; (try first | exact ⟨rfl, _, World.drewN_drewN _ _ _⟩ | exact ⟨rfl, _, Eq.trans (World.drewN_drewN _ _ _) (congrArg (World.drewN _) (Nat.add_assoc _ _ _))⟩))))
                go_ret3
                exact ⟨q18_, q11_⟩


def fixed_Clamp.f (a0 : Int) (a1 : Int) : Option (Int) := some (mx (mn a0 a1) 0)
set_option maxHeartbeats 8000000 in
set_option maxRecDepth 100000 in
theorem fixed_Clamp.calls (a0 : Int) (a1 : Int) (r : Int) (w : World) (h : fixed_Clamp.f a0 a1 = some r) :
    Calls Try.prog 17 #[.int .i64 a0, .int .i64 a1] w fun e w' => e = .returned (.int .i64 r) ∧ Below w.heap.size w w' := by
  have HB := Aside0.mk (Below.refl w.heap.size w)
  have H : (some (mx (mn a0 a1) 0)) = some r := h
  clear h
  obtain ⟨ji3, hji3⟩ : ∃ j_ : Int, (mn a0 a1) = j_ := ⟨_, rfl⟩
  replace H : (some (mx (ji3) 0)) = some r := by first | (rw [hji3] at H; exact H) | (simp only [hji3] at H ⊢; exact H)
  have hji3_ : (if a1 < a0 then a1 else a0) = ji3 := hji3
  obtain ⟨ji4, hji4⟩ : ∃ j_ : Int, (mx (ji3) 0) = j_ := ⟨_, rfl⟩
  replace H : (some ji4) = some r := by first | (rw [hji4] at H; exact H) | (simp only [hji4] at H ⊢; exact H)
  have hji4_ : (if (ji3) < 0 then 0 else (ji3)) = ji4 := hji4
  obtain rfl := Option.some.inj H
  go_enter Try.func17, Try.ntmps17
  go_wp2
  go_ret
  exact ⟨by first | rfl | (simp [errW_none, errW_some] <;> rfl) | (simp only [← hji3, ← hji4]; first | rfl | (simp [errW_none, errW_some] <;> rfl)) | (simp [*, errW_none, errW_some] <;> rfl), q11_⟩

end Go.Proofs.Ytepbjipmfchpnaa.PFixedBounds
