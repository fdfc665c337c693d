-- Written by a program of the session (wip/tools/myprint.py) over the kit's printer; checked by Lean.
import Derived.Test.YtepbjipmfchpnaaPFixedWithinx0
import Derived.Test.YtepbjipmfchpnaaPFixedWithinx1
namespace Go.Proofs.Ytepbjipmfchpnaa.PFixedWithin
open Go.RowKit Go.Proofs.YtepbjipmfchpnaaW.PrintWords Go.Proofs.YtepbjipmfchpnaaW.PrintLast Go.Proofs.YtepbjipmfchpnaaW.PrintMore
attribute [local go_sem] max2_int min2_int max_two min_two max_three min_three max_four min_four   -- for this text's walks alone
set_option linter.unusedVariables false
set_option linter.unusedSimpArgs false

/-! ### fixed_Bounds: function 11 -/
def fixed_Bounds.l0 : Nat → List Int → Int → Int → Int → Int → Int → Int → Int → Option (Int × Int × Bool)
  | 0, _, _, _, _, _, _, _, _ => none
  | k + 1, l, lo, hi, i, a, b, c, d => if i < (l.length : Int) then (if 0 ≤ i then ((fixed_wide_add.f a b (mn (wrap64 ((rd l i) * lo)) (wrap64 ((rd l i) * hi)))).bind fun p => ((fixed_wide_add.f c d (mx (wrap64 ((rd l i) * lo)) (wrap64 ((rd l i) * hi)))).bind fun q => (fixed_Bounds.l0 k l lo hi (wrap64 (i + 1)) p.1 p.2 q.1 q.2))) else none) else ((fixed_wide_value.f a b).bind fun p => ((fixed_wide_value.f c d).bind fun q => (if p.2.1 = true then (if q.2.1 = true then (some (p.1, q.1, true)) else (some (0, 0, false))) else (some (0, 0, false)))))
def fixed_Bounds.f (k : Nat) (l0 : List Int) (a1 : Int) (a2 : Int) : Option (Int × Int × Bool) := (fixed_Weights.f k l0).bind fun t => (if t = 0 then (if a1 > a2 then (some (0, 0, false)) else (if a1 < (-68719476736) then (some (0, 0, false)) else (if a2 > 68719476736 then (some (0, 0, false)) else (fixed_Bounds.l0 k l0 a1 a2 0 0 0 0 0)))) else (some (0, 0, false)))
theorem fixed_Bounds.mono_l : ∀ k, (∀ y0 y1 y2 y3 y4 y5 y6 y7, LeO (fixed_Bounds.l0 k y0 y1 y2 y3 y4 y5 y6 y7) (fixed_Bounds.l0 (k + 1) y0 y1 y2 y3 y4 y5 y6 y7))
  | 0 => fun _ _ _ _ _ _ _ _ r h => by simp [fixed_Bounds.l0] at h
  | k + 1 => by
    have ih0 := fixed_Bounds.mono_l k
    intro y0 y1 y2 y3 y4 y5 y6 y7
    unfold fixed_Bounds.l0
    repeat' first
      | (with_reducible exact ih0 _ _ _ _ _ _ _ _)
      | (with_reducible exact LeO.refl _)
      | (with_reducible exact LeO.none _)
      | (with_reducible refine LeO.ite ?_ ?_)
      | (with_reducible refine LeO.bind ?_ (fun _ => ?_))
      | exact ih0 _ _ _ _ _ _ _ _
      | refine LeO.ite ?_ ?_
      | refine LeO.bind ?_ (fun _ => ?_)
theorem fixed_Bounds.mono : ∀ a0 a1 a2 k, LeO (fixed_Bounds.f k a0 a1 a2) (fixed_Bounds.f (k + 1) a0 a1 a2) := by
  intro a0 a1 a2 k
  have ih0 := fixed_Bounds.mono_l k
  unfold fixed_Bounds.f
  repeat' first
      | (with_reducible exact ih0 _ _ _ _ _ _ _ _)
      | (with_reducible exact fixed_Weights.mono _ _)
      | (with_reducible exact LeO.refl _)
      | (with_reducible exact LeO.none _)
      | (with_reducible refine LeO.ite ?_ ?_)
      | (with_reducible refine LeO.bind ?_ (fun _ => ?_))
      | exact ih0 _ _ _ _ _ _ _ _
      | refine LeO.ite ?_ ?_
      | refine LeO.bind ?_ (fun _ => ?_)
theorem fixed_Bounds.keepS {w0 W W' : World} {g g' : Nat} {f0 f1 : Int} (h : IsS43 w0 W g f0 f1) (hk : KeepBut W W' g' none) (hn : g ≠ g') : IsS43 w0 W' g f0 f1 := by
  obtain ⟨hb, hg⟩ := h
  exact ⟨hk.blk hb hn (by simp), hg⟩
set_option maxHeartbeats 8000000 in
set_option maxRecDepth 100000 in
theorem fixed_Bounds.calls (k : Nat) (A0 : Option Addr) (c0 : Nat) (l0 : List Int) (a1 : Int) (a2 : Int) (r1 : Int) (r2 : Int) (r3 : Bool) (w : World) (hr0 : Kd.C (Kd.int .i64) w A0 l0.length l0) (hc0 : l0.length ≤ c0) (h : fixed_Bounds.f k l0 a1 a2 = some (r1, r2, r3)) :
    Calls Try.prog 11 #[.slice A0 l0.length c0, .int .i64 a1, .int .i64 a2] w fun e w' => e = .returned (.tuple #[.int .i64 r1, .int .i64 r2, .bool r3]) ∧ Below w.heap.size w w' := by
  have HR0 := Aside0.mk hr0
  have HC0 := Aside0.mk hc0
  clear hr0 hc0
  have HB := Aside0.mk (Below.refl w.heap.size w)
  unfold fixed_Bounds.f at h
  replace h := Option.bind_eq_some_iff.mp h
  obtain ⟨t, A50, H⟩ := h
  have A5 := Aside0.mk A50
  clear A50
  by_cases c1 : t = 0
  · rw [if_pos c1] at H
    have c1b0 : (t == 0) = true := beq_iff_eq.mpr c1
    have c1b1 : (t != 0) = false := bne_eq_false_iff_eq.mpr c1
    clear c1
    by_cases c2 : a1 > a2
    · rw [if_pos c2] at H
      have c2b0 : decide (a2 < a1) = true := decide_eq_true c2
      clear c2
      simp only [Option.some.injEq, Prod.mk.injEq] at H
      obtain ⟨rfl, rfl, rfl⟩ := H
      go_enter Try.func11, Try.ntmps11
      go_wp2_with (go_at_call 13; (with_reducible refine (fixed_Weights.calls k _ _ l0 t _ ?side1 ?side2 A5.out).mono ?_); (case side1 => exact HR0.out); (case side2 => exact HC0.out); rintro e w' ⟨rfl, ⟨nd, rfl⟩⟩)
      go_ret3
      exact ⟨rfl, by repeat (first | (with_reducible first | exact HB.out | apply below_alloc | apply pw_below_drewN | apply below_drew1) | exact HB.out)⟩
    · rw [if_neg c2] at H
      have c2b0 : decide (a2 < a1) = false := decide_eq_false c2
      clear c2
      by_cases c3 : a1 < (-68719476736)
      · rw [if_pos c3] at H
        have c3b0 : decide (a1 < (-68719476736)) = true := decide_eq_true c3
        clear c3
        simp only [Option.some.injEq, Prod.mk.injEq] at H
        obtain ⟨rfl, rfl, rfl⟩ := H
        go_enter Try.func11, Try.ntmps11
        go_wp2_with (go_at_call 13; (with_reducible refine (fixed_Weights.calls k _ _ l0 t _ ?side1 ?side2 A5.out).mono ?_); (case side1 => exact HR0.out); (case side2 => exact HC0.out); rintro e w' ⟨rfl, ⟨nd, rfl⟩⟩)
        go_ret3
        exact ⟨rfl, by repeat (first | (with_reducible first | exact HB.out | apply below_alloc | apply pw_below_drewN | apply below_drew1) | exact HB.out)⟩
      · rw [if_neg c3] at H
        have c3b0 : decide (a1 < (-68719476736)) = false := decide_eq_false c3
        clear c3
        by_cases c4 : a2 > 68719476736
        · rw [if_pos c4] at H
          have c4b0 : decide (68719476736 < a2) = true := decide_eq_true c4
          clear c4
          simp only [Option.some.injEq, Prod.mk.injEq] at H
          obtain ⟨rfl, rfl, rfl⟩ := H
          go_enter Try.func11, Try.ntmps11
          go_wp2_with (go_at_call 13; (with_reducible refine (fixed_Weights.calls k _ _ l0 t _ ?side1 ?side2 A5.out).mono ?_); (case side1 => exact HR0.out); (case side2 => exact HC0.out); rintro e w' ⟨rfl, ⟨nd, rfl⟩⟩)
          go_ret3
          exact ⟨rfl, by repeat (first | (with_reducible first | exact HB.out | apply below_alloc | apply pw_below_drewN | apply below_drew1) | exact HB.out)⟩
        · rw [if_neg c4] at H
          have c4b0 : decide (68719476736 < a2) = false := decide_eq_false c4
          clear c4
          have H' := Aside0.mk H
          clear H
          have hu43 := Try.underlying43
          go_enter Try.func11, Try.ntmps11
          go_wp2_with (go_at_call 13; (with_reducible refine (fixed_Weights.calls k _ _ l0 t _ ?side1 ?side2 A5.out).mono ?_); (case side1 => exact HR0.out); (case side2 => exact HC0.out); rintro e w' ⟨rfl, ⟨nd, rfl⟩⟩)
          go_loopg [37] k (fun kq v37 w' => ∃ (i a b c d : Int), v37 = .int .i64 i ∧ Aside0 (fixed_Bounds.l0 kq l0 a1 a2 i a b c d = some (r1, r2, r3)) ∧ Aside0 (kq ≤ k) ∧ Aside0 (IsS43 w w' w.heap.size a b) ∧ Aside0 (IsS43 w w' (w.heap.size + 1) c d) ∧ Aside0 (Below w.heap.size w w'))
          case atStart =>
            refine ⟨0, 0, 0, 0, 0, rfl, H', ⟨Nat.le_refl _⟩, ⟨?_⟩, ⟨?_⟩, ⟨?_⟩⟩
            · repeat (first | exact IsS43.new w (w.drewN nd) 0 0 (by repeat (first | exact HB.out | apply pw_below_drewN)) | apply IsS43.alloc | apply IsS43.drewN | apply IsS43.drew)
            · refine (?_ : IsS43 w _ (((w.drewN nd).alloc (Obj.cells #[Value.int IntKind.i64 0, Value.int IntKind.i64 0] 43)).heap.size) 0 0) |> fun h => by simpa using h
              exact IsS43.new w _ 0 0 (by repeat (first | exact HB.out | apply below_alloc | apply pw_below_drewN))
            · repeat (first | exact HB.out | apply below_alloc | apply pw_below_drewN | apply below_drew1)
          case round =>
            clear H'
            obtain ⟨i, a, b, c, d, rfl, HA, HK1, S10, S20, HB⟩ := hrel
            cases gk with
            | zero => exact absurd HA.out (by simp [fixed_Bounds.l0])
            | succ k1 =>
              have H := HA.out
              clear HA
              simp only [fixed_Bounds.l0] at H
              by_cases c5 : i < (l0.length : Int)
              · rw [if_pos c5] at H
                by_cases c6 : 0 ≤ i
                · rw [if_pos c6] at H
                  have c5b0 : decide (i < (l0.length : Int)) = true := decide_eq_true c5
                  have c6b0 : decide (0 ≤ i) = true := decide_eq_true c6
                  replace H := Option.bind_eq_some_iff.mp H
                  obtain ⟨⟨p1, p2⟩, A60, H⟩ := H
                  replace H := Option.bind_eq_some_iff.mp H
                  obtain ⟨⟨q1, q2⟩, A70, H⟩ := H
                  obtain ⟨jn, hjn⟩ : ∃ j_ : Int, (mn (wrap64 ((rd l0 i) * a1)) (wrap64 ((rd l0 i) * a2))) = j_ := ⟨_, rfl⟩
                  rw [hjn] at A60
                  have hjn_ : (if (wrap64 ((rd l0 i) * a2)) < (wrap64 ((rd l0 i) * a1)) then (wrap64 ((rd l0 i) * a2)) else (wrap64 ((rd l0 i) * a1))) = jn := hjn
                  obtain ⟨jx, hjx⟩ : ∃ j_ : Int, (mx (wrap64 ((rd l0 i) * a1)) (wrap64 ((rd l0 i) * a2))) = j_ := ⟨_, rfl⟩
                  rw [hjx] at A70
                  have hjx_ : (if (wrap64 ((rd l0 i) * a1)) < (wrap64 ((rd l0 i) * a2)) then (wrap64 ((rd l0 i) * a2)) else (wrap64 ((rd l0 i) * a1))) = jx := hjx
                  have A6 := Aside0.mk A60
                  have A7 := Aside0.mk A70
                  have H' := Aside0.mk H
                  clear A60 A70 H c5 c6
                  have p139 : 0 ≤ (i : Int) := of_decide_eq_true (by first | (with_reducible assumption) | assumption)
                  have q139 : i < (l0.length : Int) := of_decide_eq_true (by first | (with_reducible assumption) | assumption)
                  obtain ⟨ad139, e139, hx139_0⟩ := Kd.at_int HR0.out i p139 q139
                  cases e139
                  replace hx139_0 := (HB.out.cell (World.block_lt_of_cell? w _ hx139_0)).trans hx139_0
                  replace p139 := eq_true p139
                  replace q139 := eq_true q139
                  go_wp2_with (first | ((with_reducible refine gate_callee (f := 23) rfl ?_); refine goesL_ (some 50) rfl rfl Try.func23 (by kernel_rfl) rfl #[.pointer (some ⟨w.heap.size, 0, none⟩), .int .i64 jn] rfl (by (try simp only [List.map_toArray, List.map_cons, List.map_nil]); first | done | rfl) ?_; (with_reducible refine (fixed_wide_add.calls w.heap.size a b jn p1 p2 w _ ?side1 ?side2 A6.out).mono ?_); (case side1 => exact S10.out); (case side2 => exact HB.out); rintro e w7 ⟨rfl, hi, hb, hk⟩; refine ⟨_, rfl, ?_⟩; have n1_ := Aside0.mk hi; have n2_ := Aside0.mk (fixed_Bounds.keepS S20.out hk (Nat.succ_ne_self _)); have n3_ := Aside0.mk hb; clear S10 S20 HB; have S10 := n1_; have S20 := n2_; have HB := n3_; clear n1_ n2_ n3_ hi hb hk) | ((with_reducible refine gate_callee (f := 23) rfl ?_); refine goesL_ (some 54) rfl rfl Try.func23 (by kernel_rfl) rfl #[.pointer (some ⟨w.heap.size + 1, 0, none⟩), .int .i64 jx] rfl (by (try simp only [List.map_toArray, List.map_cons, List.map_nil]); first | done | rfl) ?_; (with_reducible refine (fixed_wide_add.calls (w.heap.size + 1) c d jx q1 q2 w _ ?side1 ?side2 A7.out).mono ?_); (case side1 => exact S20.out); (case side2 => exact HB.out); rintro e w8 ⟨rfl, hi, hb, hk⟩; refine ⟨_, rfl, ?_⟩; have n1_ := Aside0.mk hi; have n2_ := Aside0.mk (fixed_Bounds.keepS S10.out hk (Nat.ne_of_lt (Nat.lt_succ_self _))); have n3_ := Aside0.mk hb; clear S10 S20 HB; have S20 := n1_; have S10 := n2_; have HB := n3_; clear n1_ n2_ n3_ hi hb hk))
                  go_roundg k1
                  case measure => have := HK1.out; omega
                  case rel => exact ⟨(wrap64 (i + 1)), p1, p2, q1, q2, rfl, H', ⟨by have := HK1.out; omega⟩, S10, S20, HB⟩
                · rw [if_neg c6] at H
                  exact absurd H (by simp)
              · rw [if_neg c5] at H
                have c5b0 : decide (i < (l0.length : Int)) = false := decide_eq_false c5
                clear c5
                replace H := Option.bind_eq_some_iff.mp H
                obtain ⟨⟨p1, p2, p3, p4⟩, A60, H⟩ := H
                replace H := Option.bind_eq_some_iff.mp H
                obtain ⟨⟨q1, q2, q3, q4⟩, A70, H⟩ := H
                replace H : (if p2 = true then (if q2 = true then (some (p1, q1, true)) else (some (0, 0, false))) else (some (0, 0, false))) = some (r1, r2, r3) := H
                have A6 := Aside0.mk A60
                have A7 := Aside0.mk A70
                clear A60 A70
                rcases p2 with _ | _ <;> rcases q2 with _ | _
                all_goals
                  simp only [Option.some.injEq, Prod.mk.injEq, if_true, if_false, Bool.false_eq_true, eq_self_iff_true] at H
                  obtain ⟨rfl, rfl, rfl⟩ := H
                  go_wp2_with (first | ((with_reducible refine gate_callee (f := 24) rfl ?_); refine goesL_ (some 57) rfl rfl Try.func24 (by kernel_rfl) rfl #[.pointer (some ⟨w.heap.size, 0, none⟩)] rfl (by (try simp only [List.map_toArray, List.map_cons, List.map_nil]); first | done | rfl) ?_; (with_reducible refine (fixed_wide_value.calls w.heap.size a b _ _ _ _ w _ ?side1 ?side2 A6.out).mono ?_); (case side1 => exact S10.out); (case side2 => exact HB.out); rintro e w7 ⟨rfl, hi, hb, hk⟩; refine ⟨_, rfl, ?_⟩; have n2_ := Aside0.mk (fixed_Bounds.keepS S20.out hk (Nat.succ_ne_self _)); have n3_ := Aside0.mk hb; clear S10 S20 HB; have S20 := n2_; have HB := n3_; clear n2_ n3_ hi hb hk) | ((with_reducible refine gate_callee (f := 24) rfl ?_); refine goesL_ (some 61) rfl rfl Try.func24 (by kernel_rfl) rfl #[.pointer (some ⟨w.heap.size + 1, 0, none⟩)] rfl (by (try simp only [List.map_toArray, List.map_cons, List.map_nil]); first | done | rfl) ?_; (with_reducible refine (fixed_wide_value.calls (w.heap.size + 1) c d _ _ _ _ w _ ?side1 ?side2 A7.out).mono ?_); (case side1 => exact S20.out); (case side2 => exact HB.out); rintro e w8 ⟨rfl, hi, hb, hk⟩; refine ⟨_, rfl, ?_⟩; have n3_ := Aside0.mk hb; clear S20 HB; have HB := n3_; clear n3_ hi hb hk))
                  go_ret3
                  exact ⟨rfl, by repeat (first | (with_reducible first | exact HB.out | apply below_alloc | apply pw_below_drewN | apply below_drew1) | exact HB.out)⟩
  · rw [if_neg c1] at H
    have c1b0 : (t == 0) = false := beq_eq_false_iff_ne.mpr c1
    have c1b1 : (t != 0) = true := bne_iff_ne.mpr c1
    clear c1
    simp only [Option.some.injEq, Prod.mk.injEq] at H
    obtain ⟨rfl, rfl, rfl⟩ := H
    go_enter Try.func11, Try.ntmps11
    go_wp2_with (go_at_call 13; (with_reducible refine (fixed_Weights.calls k _ _ l0 t _ ?side1 ?side2 A5.out).mono ?_); (case side1 => exact HR0.out); (case side2 => exact HC0.out); rintro e w' ⟨rfl, ⟨nd, rfl⟩⟩)
    go_ret3
    exact ⟨rfl, by repeat (first | (with_reducible first | exact HB.out | apply below_alloc | apply pw_below_drewN | apply below_drew1) | exact HB.out)⟩


/-! ### fixed_Clamp: function 17 -/
def fixed_Clamp.f (a0 : Int) (a1 : Int) : Option (Int) := some (mx (mn a0 a1) 0)
set_option maxHeartbeats 8000000 in
set_option maxRecDepth 100000 in
theorem fixed_Clamp.calls (a0 : Int) (a1 : Int) (r : Int) (w : World) (h : fixed_Clamp.f a0 a1 = some r) :
    Calls Try.prog 17 #[.int .i64 a0, .int .i64 a1] w fun e w' => e = .returned (.int .i64 r) ∧ Below w.heap.size w w' := by
  have HB := Aside0.mk (Below.refl w.heap.size w)
  have H : (some (mx (mn a0 a1) 0)) = some r := h
  clear h
  obtain ⟨ji3, hji3⟩ : ∃ j_ : Int, (mn a0 a1) = j_ := ⟨_, rfl⟩
  replace H : (some (mx (ji3) 0)) = some r := by first | (rw [hji3] at H; exact H) | (simp only [hji3] at H ⊢; exact H)
  have hji3_ : (if a1 < a0 then a1 else a0) = ji3 := hji3
  obtain ⟨ji4, hji4⟩ : ∃ j_ : Int, (mx (ji3) 0) = j_ := ⟨_, rfl⟩
  replace H : (some ji4) = some r := by first | (rw [hji4] at H; exact H) | (simp only [hji4] at H ⊢; exact H)
  have hji4_ : (if (ji3) < 0 then 0 else (ji3)) = ji4 := hji4
  obtain rfl := Option.some.inj H
  go_enter Try.func17, Try.ntmps17
  go_wp2
  go_ret
  exact ⟨by first | rfl | (simp [errW_none, errW_some] <;> rfl) | (simp only [← hji3, ← hji4]; first | rfl | (simp [errW_none, errW_some] <;> rfl)) | (simp [*, errW_none, errW_some] <;> rfl), by repeat (first | (with_reducible first | exact HB.out | apply below_alloc | apply pw_below_drewN | apply below_drew1) | exact HB.out)⟩

/-! ### fixed_Shift: function 20 -/
def fixed_Shift.j0 : Nat → Int → Int → Bool → Option (Int)
  | 0, _, _, _ => none
  | k + 1, x0, x1, x5 => if x5 = true then (some 0) else (if x1 = 0 then (some x0) else (if 0 ≤ (wrap64 (x1 - 1)) then (if 0 ≤ x1 then (some (shr .i64 (wrap64 (x0 + (shl .i64 1 (wrap64 (x1 - 1))))) x1)) else (none)) else (none)))
def fixed_Shift.f (k : Nat) (a0 : Int) (a1 : Int) : Option (Int) := (fixed_sum.f a0).bind fun t119 => (if t119 = true then (if a1 < 0 then (fixed_Shift.j0 k a0 a1 true) else (fixed_Shift.j0 k a0 a1 (decide (a1 > 24)))) else (fixed_Shift.j0 k a0 a1 true))
theorem fixed_Shift.mono_l : ∀ k, (∀ y0 y1 y2, LeO (fixed_Shift.j0 k y0 y1 y2) (fixed_Shift.j0 (k + 1) y0 y1 y2))
  | 0 => fun _ _ _ r h => by simp [fixed_Shift.j0] at h
  | k + 1 => by
    have ih0 := fixed_Shift.mono_l k
    · intro y0 y1 y2
      unfold fixed_Shift.j0
      repeat' first
      | (with_reducible exact ih0 _ _ _)
      | (with_reducible exact LeO.refl _)
      | (with_reducible exact LeO.none _)
      | (with_reducible refine LeO.ite ?_ ?_)
      | (with_reducible refine LeO.bind ?_ (fun _ => ?_))
      | exact ih0 _ _ _
      | exact LeO.none _
      | refine LeO.ite ?_ ?_
      | refine LeO.bind ?_ (fun _ => ?_)
theorem fixed_Shift.mono : ∀ a0 a1 k, LeO (fixed_Shift.f k a0 a1) (fixed_Shift.f (k + 1) a0 a1) := by
  intro a0 a1 k
  have ih0 := fixed_Shift.mono_l k
  unfold fixed_Shift.f
  repeat' first
      | (with_reducible exact ih0 _ _ _)
      | (with_reducible exact LeO.refl _)
      | (with_reducible exact LeO.none _)
      | (with_reducible refine LeO.ite ?_ ?_)
      | (with_reducible refine LeO.bind ?_ (fun _ => ?_))
      | exact ih0 _ _ _
      | exact LeO.none _
      | refine LeO.ite ?_ ?_
      | refine LeO.bind ?_ (fun _ => ?_)
set_option maxHeartbeats 8000000 in
set_option maxRecDepth 100000 in
theorem fixed_Shift.calls (k : Nat) (a0 : Int) (a1 : Int) (r : Int) (w : World) (h : fixed_Shift.f k a0 a1 = some r) :
    Calls Try.prog 20 #[.int .i64 a0, .int .i64 a1] w fun e w' => e = .returned (.int .i64 r) ∧ Drawn0 w w' := by
  have H : ((fixed_sum.f a0).bind fun t119 => (if t119 = true then (if a1 < 0 then (fixed_Shift.j0 k a0 a1 true) else (fixed_Shift.j0 k a0 a1 (decide (a1 > 24)))) else (fixed_Shift.j0 k a0 a1 true))) = some r := h
  clear h
  have HC3 := Aside0.mk H
  clear H
  go_enter Try.func20, Try.ntmps20
  go_upto_region 1 with (fail)
  go_cut [5] (fun v5 wc => ∃ (kq : Nat) (x5_2 : Bool), v5 = .bool x5_2 ∧ Aside0 (fixed_Shift.j0 kq a0 a1 x5_2 = some r) ∧ Aside0 (kq ≤ k) ∧ Drawn0 w wc)
  case first =>
    have H := HC3.out
    clear HC3
    replace H := Option.bind_eq_some_iff.mp H
    obtain ⟨t119, A40, H⟩ := H
    replace H : (if t119 = true then (if a1 < 0 then (fixed_Shift.j0 k a0 a1 true) else (fixed_Shift.j0 k a0 a1 (decide (a1 > 24)))) else (fixed_Shift.j0 k a0 a1 true)) = some r := H
    have A4 := Aside0.mk A40
    clear A40
    by_cases c5 : t119 = true
    · subst c5
      have H1 : (if a1 < 0 then (fixed_Shift.j0 k a0 a1 true) else (fixed_Shift.j0 k a0 a1 (decide (a1 > 24)))) = some r := by rw [if_pos rfl] at H; exact H
      clear H
      have H := H1
      clear H1
      by_cases c6 : a1 < 0
      · rw [if_pos c6] at H
        have c6b0 : decide (a1 < 0) = true := decide_eq_true c6
        clear c6
        (first | rw [c6b0] | (simp only [i64_w, i32_w]; rw [c6b0]) | skip)
        have H' := Aside0.mk H
        clear H
        go_wp2_with (first | ((with_reducible refine gate_callee (f := 27) rfl ?_); refine goesL_ (some 7) rfl rfl Try.func27 (by kernel_rfl) rfl #[.int .i64 a0] rfl (by (try simp only [List.map_toArray, List.map_cons, List.map_nil]); first | done | rfl | (simp only [List.length_drop, List.length_take]; rfl)) ?_; (with_reducible refine (fixed_sum.calls a0 true _ A4.out).mono ?_); rintro e w' ⟨rfl, ⟨nd, rfl⟩⟩; refine ⟨_, rfl, ?_⟩))
        go_meet
        case rel => exact ⟨_, (true), (by first | rfl | (simp; done) | (simp [*]; done)), H', ⟨by first | omega | exact Nat.le_refl _⟩, by repeat (first | exact Drawn0.refl _ | apply Drawn0.step)⟩
      · rw [if_neg c6] at H
        have c6b0 : decide (a1 < 0) = false := decide_eq_false c6
        clear c6
        (first | rw [c6b0] | (simp only [i64_w, i32_w]; rw [c6b0]) | skip)
        have H' := Aside0.mk H
        clear H
        go_wp2_with (first | ((with_reducible refine gate_callee (f := 27) rfl ?_); refine goesL_ (some 7) rfl rfl Try.func27 (by kernel_rfl) rfl #[.int .i64 a0] rfl (by (try simp only [List.map_toArray, List.map_cons, List.map_nil]); first | done | rfl | (simp only [List.length_drop, List.length_take]; rfl)) ?_; (with_reducible refine (fixed_sum.calls a0 true _ A4.out).mono ?_); rintro e w' ⟨rfl, ⟨nd, rfl⟩⟩; refine ⟨_, rfl, ?_⟩))
        go_meet
        case rel => exact ⟨_, (decide (a1 > 24)), (by first | rfl | (simp; done) | (simp [*]; done)), H', ⟨by first | omega | exact Nat.le_refl _⟩, by repeat (first | exact Drawn0.refl _ | apply Drawn0.step)⟩
    · replace c5 := Bool.eq_false_iff.mpr c5
      subst c5
      have H1 : (fixed_Shift.j0 k a0 a1 true) = some r := by rw [if_neg (show ¬ (false = true) by decide)] at H; exact H
      clear H
      have H := H1
      clear H1
      have H' := Aside0.mk H
      clear H
      go_wp2_with (first | ((with_reducible refine gate_callee (f := 27) rfl ?_); refine goesL_ (some 7) rfl rfl Try.func27 (by kernel_rfl) rfl #[.int .i64 a0] rfl (by (try simp only [List.map_toArray, List.map_cons, List.map_nil]); first | done | rfl | (simp only [List.length_drop, List.length_take]; rfl)) ?_; (with_reducible refine (fixed_sum.calls a0 false _ A4.out).mono ?_); rintro e w' ⟨rfl, ⟨nd, rfl⟩⟩; refine ⟨_, rfl, ?_⟩))
      go_meet
      case rel => exact ⟨_, (true), (by first | rfl | (simp; done) | (simp [*]; done)), H', ⟨by first | omega | exact Nat.le_refl _⟩, by repeat (first | exact Drawn0.refl _ | apply Drawn0.step)⟩
  case rest =>
    clear HC3
    try clear c2
    try clear p2
    try clear c5
    try clear c6
    try clear c6b0
    obtain ⟨kq, x5_2, rfl, HA, HJ2, ⟨mc2, rfl⟩⟩ := hcut
    cases kq with
    | zero => exact absurd HA.out (by simp [fixed_Shift.j0])
    | succ kj2 =>
      have H := HA.out
      clear HA
      simp only [fixed_Shift.j0] at H
      by_cases c7 : x5_2 = true
      · subst c7
        have H1 : (some 0) = some r := by rw [if_pos rfl] at H; exact H
        clear H
        have H := H1
        clear H1
        obtain rfl := Option.some.inj H
        go_wp2
        go_ret
        exact ⟨by first | rfl | (simp; done) | (simp [*]; done), by repeat (first | exact Drawn0.refl _ | apply Drawn0.step)⟩
      · replace c7 := Bool.eq_false_iff.mpr c7
        subst c7
        have H1 : (if a1 = 0 then (some a0) else (if 0 ≤ (wrap64 (a1 - 1)) then (if 0 ≤ a1 then (some (shr .i64 (wrap64 (a0 + (shl .i64 1 (wrap64 (a1 - 1))))) a1)) else (none)) else (none))) = some r := by rw [if_neg (show ¬ (false = true) by decide)] at H; exact H
        clear H
        have H := H1
        clear H1
        by_cases c8 : a1 = 0
        · rw [if_pos c8] at H
          have c8b0 : (a1 == 0) = true := beq_iff_eq.mpr c8
          have c8b1 : (a1 != 0) = false := bne_eq_false_iff_eq.mpr c8
          clear c8
          obtain rfl := Option.some.inj H
          go_wp2
          go_ret
          exact ⟨by first | rfl | (simp; done) | (simp [*]; done), by repeat (first | exact Drawn0.refl _ | apply Drawn0.step)⟩
        · rw [if_neg c8] at H
          have c8b0 : (a1 == 0) = false := beq_eq_false_iff_ne.mpr c8
          have c8b1 : (a1 != 0) = true := bne_iff_ne.mpr c8
          obtain ⟨ji9, hji9⟩ : ∃ j_ : Int, (wrap64 (a1 - 1)) = j_ := ⟨_, rfl⟩
          replace H : (if 0 ≤ (ji9) then (if 0 ≤ a1 then (some (shr .i64 (wrap64 (a0 + (shl .i64 1 (ji9)))) a1)) else (none)) else (none)) = some r := by first | (rw [hji9] at H; exact H) | (simp only [hji9] at H ⊢; exact H)
          have hji9w : (IntKind.i64.wrap (a1 - 1)) = ji9 := (i64_w _).trans hji9
          by_cases c10 : 0 ≤ (ji9)
          · rw [if_pos c10] at H
            have c10b0 := eq_true c10
            have c10b1 : decide (0 ≤ (ji9)) = true := decide_eq_true c10
            clear c10
            obtain ⟨ji11, hji11⟩ : ∃ j_ : Int, (shl .i64 1 (ji9)) = j_ := ⟨_, rfl⟩
            replace H : (if 0 ≤ a1 then (some (shr .i64 (wrap64 (a0 + (ji11))) a1)) else (none)) = some r := by first | (rw [hji11] at H; exact H) | (simp only [hji11] at H ⊢; exact H)
            have hji11_ : (IntKind.i64.wrap (1 * 2 ^ min (ji9).toNat 64)) = ji11 := hji11
            have hji11z : (ji9) ≤ 64 → (IntKind.i64.wrap (1 * 2 ^ (ji9).toNat)) = ji11 := shl_small hji11
            have hji11u : (IntKind.i64.wrap (2 ^ min (ji9).toNat 64)) = ji11 := by have h_ := hji11_; rw [Int.one_mul] at h_; exact h_
            have hji11v : (ji9) ≤ 64 → (IntKind.i64.wrap (2 ^ (ji9).toNat)) = ji11 := fun hle_ => by have h_ := hji11z hle_; rw [Int.one_mul] at h_; exact h_
            have hji11y : (wrap64 (1 * 2 ^ min (ji9).toNat 64)) = ji11 := (i64_w _).symm.trans hji11_
            have hji11x : (ji9) ≤ 64 → (wrap64 (1 * 2 ^ (ji9).toNat)) = ji11 := fun h_ => (i64_w _).symm.trans (hji11z h_)
            by_cases c12 : 0 ≤ a1
            · rw [if_pos c12] at H
              have c12b0 := eq_true c12
              have c12b1 : decide (0 ≤ a1) = true := decide_eq_true c12
              clear c12
              obtain ⟨ji13, hji13⟩ : ∃ j_ : Int, (shr .i64 (wrap64 (a0 + (ji11))) a1) = j_ := ⟨_, rfl⟩
              replace H : (some ji13) = some r := by first | (rw [hji13] at H; exact H) | (simp only [hji13] at H ⊢; exact H)
              have hji13_ : ((wrap64 (a0 + (ji11))) / 2 ^ min a1.toNat 64) = ji13 := hji13
              have hji13z : a1 ≤ 64 → ((wrap64 (a0 + (ji11))) / 2 ^ a1.toNat) = ji13 := shr_small hji13
              obtain rfl := Option.some.inj H
              go_wp2
              go_ret
              exact ⟨by first | rfl | (simp; done) | (simp only [← hji9, ← hji11, ← hji13] <;> (first | rfl | simp)) | (simp [*]; done), by repeat (first | exact Drawn0.refl _ | apply Drawn0.step)⟩
            · rw [if_neg c12] at H
              exact absurd H (by simp)
          · rw [if_neg c10] at H
            exact absurd H (by simp)

/-! ### tilefarmlaw7_sane: function 15 -/
def tilefarmlaw7_sane.f (k : Nat)  : Option (Bool) := (fixed_Bounds.f k (([1, (-2)] : List Int)) 0 10).bind fun bt123 => ((fixed_Shift.f k 5 1).bind fun t126 => (if t126 = 3 then ((fixed_Shift.f k (-5) 1).bind fun t127 => (if t127 = (-2) then ((fixed_Shift.f k (-6) 2).bind fun t128 => (if t128 = (-1) then (if bt123.2.2 = true then (if bt123.1 = (-20) then (if bt123.2.1 = 10 then ((fixed_Clamp.f 9 5).bind fun t129 => (some (t129 == 5))) else (some false)) else (some false)) else (some false)) else (some false))) else (some false))) else (some false)))
theorem tilefarmlaw7_sane.mono : ∀ k, LeO (tilefarmlaw7_sane.f k ) (tilefarmlaw7_sane.f (k + 1) ) := by
  intro  k
  unfold tilefarmlaw7_sane.f
  repeat' first
      | (with_reducible exact fixed_Bounds.mono _ _ _ _)
      | (with_reducible exact fixed_Shift.mono _ _ _)
      | (with_reducible exact LeO.refl _)
      | (with_reducible exact LeO.none _)
      | (with_reducible refine LeO.ite ?_ ?_)
      | (with_reducible refine LeO.bind ?_ (fun _ => ?_))
      | exact fixed_Bounds.mono _ _ _ _
      | exact fixed_Shift.mono _ _ _
      | exact LeO.none _
      | refine LeO.ite ?_ ?_
      | refine LeO.bind ?_ (fun _ => ?_)
set_option maxHeartbeats 8000000 in
set_option maxRecDepth 100000 in
theorem tilefarmlaw7_sane.calls (k : Nat)  (r : Bool) (w : World) (h : tilefarmlaw7_sane.f k  = some r) :
    Calls Try.prog 15 #[] w fun e w' => e = .returned (.bool r) ∧ Below w.heap.size w w' := by
  have HB := Aside0.mk (Below.refl w.heap.size w)
  have H : ((fixed_Bounds.f k (([1, (-2)] : List Int)) 0 10).bind fun bt123 => ((fixed_Shift.f k 5 1).bind fun t126 => (if t126 = 3 then ((fixed_Shift.f k (-5) 1).bind fun t127 => (if t127 = (-2) then ((fixed_Shift.f k (-6) 2).bind fun t128 => (if t128 = (-1) then (if bt123.2.2 = true then (if bt123.1 = (-20) then (if bt123.2.1 = 10 then ((fixed_Clamp.f 9 5).bind fun t129 => (some (t129 == 5))) else (some false)) else (some false)) else (some false)) else (some false))) else (some false))) else (some false)))) = some r := h
  clear h
  obtain ⟨y120, hy120⟩ : ∃ y_ : List Int, y_ = (([1, (-2)] : List Int)) := ⟨_, rfl⟩
  replace H : ((fixed_Bounds.f k y120 0 10).bind fun bt123 => ((fixed_Shift.f k 5 1).bind fun t126 => (if t126 = 3 then ((fixed_Shift.f k (-5) 1).bind fun t127 => (if t127 = (-2) then ((fixed_Shift.f k (-6) 2).bind fun t128 => (if t128 = (-1) then (if bt123.2.2 = true then (if bt123.1 = (-20) then (if bt123.2.1 = 10 then ((fixed_Clamp.f 9 5).bind fun t129 => (some (t129 == 5))) else (some false)) else (some false)) else (some false)) else (some false))) else (some false))) else (some false)))) = some r := by first | (rw [hy120]; with_reducible exact H) | (have H2_ := (Option.bind_some _ _).symm.trans H; rw [hy120]; with_reducible exact H2_) | (have H2_ := (Option.bind_some _ _).symm.trans H; with_reducible exact H2_) | with_reducible exact H | (rw [hy120]; exact H) | exact H
  have Ny120 := Aside0.mk hy120
  clear hy120
  replace H := Option.bind_eq_some_iff.mp H
  obtain ⟨⟨t123, t124, t125⟩, A10, H⟩ := H
  replace H : ((fixed_Shift.f k 5 1).bind fun t126 => (if t126 = 3 then ((fixed_Shift.f k (-5) 1).bind fun t127 => (if t127 = (-2) then ((fixed_Shift.f k (-6) 2).bind fun t128 => (if t128 = (-1) then (if t125 = true then (if t123 = (-20) then (if t124 = 10 then ((fixed_Clamp.f 9 5).bind fun t129 => (some (t129 == 5))) else (some false)) else (some false)) else (some false)) else (some false))) else (some false))) else (some false))) = some r := H
  have A1 := Aside0.mk A10
  clear A10
  replace H := Option.bind_eq_some_iff.mp H
  obtain ⟨t126, A20, H⟩ := H
  replace H : (if t126 = 3 then ((fixed_Shift.f k (-5) 1).bind fun t127 => (if t127 = (-2) then ((fixed_Shift.f k (-6) 2).bind fun t128 => (if t128 = (-1) then (if t125 = true then (if t123 = (-20) then (if t124 = 10 then ((fixed_Clamp.f 9 5).bind fun t129 => (some (t129 == 5))) else (some false)) else (some false)) else (some false)) else (some false))) else (some false))) else (some false)) = some r := H
  have A2 := Aside0.mk A20
  clear A20
  by_cases c3 : t126 = 3
  · rw [if_pos c3] at H
    have c3b0 : (t126 == 3) = true := beq_iff_eq.mpr c3
    have c3b1 : (t126 != 3) = false := bne_eq_false_iff_eq.mpr c3
    clear c3
    replace H := Option.bind_eq_some_iff.mp H
    obtain ⟨t127, A40, H⟩ := H
    replace H : (if t127 = (-2) then ((fixed_Shift.f k (-6) 2).bind fun t128 => (if t128 = (-1) then (if t125 = true then (if t123 = (-20) then (if t124 = 10 then ((fixed_Clamp.f 9 5).bind fun t129 => (some (t129 == 5))) else (some false)) else (some false)) else (some false)) else (some false))) else (some false)) = some r := H
    have A4 := Aside0.mk A40
    clear A40
    by_cases c5 : t127 = (-2)
    · rw [if_pos c5] at H
      have c5b0 : (t127 == (-2)) = true := beq_iff_eq.mpr c5
      have c5b1 : (t127 != (-2)) = false := bne_eq_false_iff_eq.mpr c5
      clear c5
      replace H := Option.bind_eq_some_iff.mp H
      obtain ⟨t128, A60, H⟩ := H
      replace H : (if t128 = (-1) then (if t125 = true then (if t123 = (-20) then (if t124 = 10 then ((fixed_Clamp.f 9 5).bind fun t129 => (some (t129 == 5))) else (some false)) else (some false)) else (some false)) else (some false)) = some r := H
      have A6 := Aside0.mk A60
      clear A60
      by_cases c7 : t128 = (-1)
      · rw [if_pos c7] at H
        have c7b0 : (t128 == (-1)) = true := beq_iff_eq.mpr c7
        have c7b1 : (t128 != (-1)) = false := bne_eq_false_iff_eq.mpr c7
        clear c7
        by_cases c8 : t125 = true
        · subst c8
          have H1 : (if t123 = (-20) then (if t124 = 10 then ((fixed_Clamp.f 9 5).bind fun t129 => (some (t129 == 5))) else (some false)) else (some false)) = some r := by rw [if_pos rfl] at H; exact H
          clear H
          have H := H1
          clear H1
          by_cases c9 : t123 = (-20)
          · rw [if_pos c9] at H
            have c9b0 : (t123 == (-20)) = true := beq_iff_eq.mpr c9
            have c9b1 : (t123 != (-20)) = false := bne_eq_false_iff_eq.mpr c9
            clear c9
            by_cases c10 : t124 = 10
            · rw [if_pos c10] at H
              have c10b0 : (t124 == 10) = true := beq_iff_eq.mpr c10
              have c10b1 : (t124 != 10) = false := bne_eq_false_iff_eq.mpr c10
              clear c10
              replace H := Option.bind_eq_some_iff.mp H
              obtain ⟨t129, A110, H⟩ := H
              replace H : (some (t129 == 5)) = some r := H
              have A11 := Aside0.mk A110
              clear A110
              obtain rfl := Option.some.inj H
              go_enter Try.func15, Try.ntmps15
              go_wp2_with (first | ((with_reducible refine gate_dst (N := 5) rfl ?_); refine Kd.R_lit (Kd.int .i64) _ 3 ?hg (N := 5) ?hd (xs := ([1, (-2)] : List Int)) (inner := [.int .i64 1, .int .i64 (-2)]) (ok := fun _ => True) (okp := fun _ => True) ?hr ?hp (fun _ hk => hk) trivial (Below.refl _ _) (Nat.le_refl _) (by simp) ?_; (case hd => rfl); (case hg => rfl); (case hr => first | (go_simp; done) | (go_simp; rfl)); (case hp => exact (Reps.one (show Kd.M (Kd.int .i64) _ _ _ 1 [.int .i64 1] from rfl) (Reps.one (show Kd.M (Kd.int .i64) _ _ _ (-2) [.int .i64 (-2)] from rfl) (Reps.none _ _)))); intro v121 w12 ho13 hb hg_ hnew_; clear hg_ hnew_; (first | rw [← Ny120.out] at ho13 | (simp only [Int.reduceToNat] at ho13; rw [← Ny120.out] at ho13)); have n0_ := Aside0.mk (Kd.R_lower ho13 (below_size (by repeat (first | (with_reducible first | exact HB.out | apply below_alloc | apply pw_below_drewN | apply below_drew1) | exact HB.out)))); have n1_ := Aside0.mk (below_step (by repeat (first | (with_reducible first | exact HB.out | apply below_alloc | apply pw_below_drewN | apply below_drew1) | exact HB.out)) hb); clear HB; have HO122 := n0_; have HB := n1_; clear n0_ n1_; clear hb ho13; obtain ⟨Ao14, co14, eo14⟩ := Kd.R_slice HO122.out; subst eo14) | ((with_reducible refine gate_callee (f := 11) rfl ?_); refine goesL_ (some 6) rfl rfl Try.func11 (by kernel_rfl) rfl #[.slice Ao14 y120.length co14, .int .i64 0, .int .i64 10] rfl (by (try simp only [List.map_toArray, List.map_cons, List.map_nil]); first | done | rfl | (simp only [List.length_drop, List.length_take]; rfl)) ?_; (with_reducible refine (fixed_Bounds.calls k _ _ y120 0 10 t123 t124 true _ ?side1 ?side2 A1.out).mono ?_); (case side1 => repeat (first | exact (Kd.R_reads' HO122.out).2.2 | (with_reducible refine Kd.C_alloc ?_ _) | (with_reducible refine Kd.C_drewN ?_ _) | (with_reducible refine Kd.C_drew ?_))); (case side2 => exact (Kd.R_reads' HO122.out).2.1); rintro e w15 ⟨rfl, hb⟩; refine ⟨_, rfl, ?_⟩; have n0_ := Aside0.mk (Kd.R_below (by (with_reducible repeat (first | apply Kd.R_alloc | apply Kd.R_drewN | apply Kd.R_drew)); exact HO122.out) hb); have n1_ := Aside0.mk (below_step (by repeat (first | (with_reducible first | exact HB.out | apply below_alloc | apply pw_below_drewN | apply below_drew1) | exact HB.out)) hb); clear HO122; clear HB; have HO122 := n0_; have HB := n1_; clear n0_ n1_; (try clear hb); (try clear hb2); (try clear hk); (try clear hi)) | ((with_reducible refine gate_callee (f := 20) rfl ?_); refine goesL_ (some 10) rfl rfl Try.func20 (by kernel_rfl) rfl #[.int .i64 5, .int .i64 1] rfl (by (try simp only [List.map_toArray, List.map_cons, List.map_nil]); first | done | rfl | (simp only [List.length_drop, List.length_take]; rfl)) ?_; (with_reducible refine (fixed_Shift.calls k 5 1 t126 _ A2.out).mono ?_); rintro e w' ⟨rfl, ⟨nd, rfl⟩⟩; refine ⟨_, rfl, ?_⟩) | (go_at_call 20; (with_reducible refine (fixed_Shift.calls k (-5) 1 t127 _ A4.out).mono ?_); rintro e w' ⟨rfl, ⟨nd, rfl⟩⟩) | (go_at_call 20; (with_reducible refine (fixed_Shift.calls k (-6) 2 t128 _ A6.out).mono ?_); rintro e w' ⟨rfl, ⟨nd, rfl⟩⟩) | (go_at_call 17; (with_reducible refine (fixed_Clamp.calls 9 5 t129 _ A11.out).mono ?_); rintro e w16 ⟨rfl, hb⟩; have n0_ := Aside0.mk (Kd.R_below (by (with_reducible repeat (first | apply Kd.R_alloc | apply Kd.R_drewN | apply Kd.R_drew)); exact HO122.out) hb); have n1_ := Aside0.mk (below_step (by repeat (first | (with_reducible first | exact HB.out | apply below_alloc | apply pw_below_drewN | apply below_drew1) | exact HB.out)) hb); clear HO122; clear HB; have HO122 := n0_; have HB := n1_; clear n0_ n1_; (try clear hb); (try clear hb2); (try clear hk); (try clear hi)))
              go_ret
              exact ⟨by first | rfl | (simp [errW_none, errW_some] <;> rfl) | (simp [*, errW_none, errW_some] <;> rfl), by repeat (first | (with_reducible first | exact HB.out | apply below_alloc | apply pw_below_drewN | apply below_drew1) | exact HB.out)⟩
            · rw [if_neg c10] at H
              have c10b0 : (t124 == 10) = false := beq_eq_false_iff_ne.mpr c10
              have c10b1 : (t124 != 10) = true := bne_iff_ne.mpr c10
              obtain rfl := Option.some.inj H
              go_enter Try.func15, Try.ntmps15
              go_wp2_with (first | ((with_reducible refine gate_dst (N := 5) rfl ?_); refine Kd.R_lit (Kd.int .i64) _ 3 ?hg (N := 5) ?hd (xs := ([1, (-2)] : List Int)) (inner := [.int .i64 1, .int .i64 (-2)]) (ok := fun _ => True) (okp := fun _ => True) ?hr ?hp (fun _ hk => hk) trivial (Below.refl _ _) (Nat.le_refl _) (by simp) ?_; (case hd => rfl); (case hg => rfl); (case hr => first | (go_simp; done) | (go_simp; rfl)); (case hp => exact (Reps.one (show Kd.M (Kd.int .i64) _ _ _ 1 [.int .i64 1] from rfl) (Reps.one (show Kd.M (Kd.int .i64) _ _ _ (-2) [.int .i64 (-2)] from rfl) (Reps.none _ _)))); intro v121 w17 ho18 hb hg_ hnew_; clear hg_ hnew_; (first | rw [← Ny120.out] at ho18 | (simp only [Int.reduceToNat] at ho18; rw [← Ny120.out] at ho18)); have n0_ := Aside0.mk (Kd.R_lower ho18 (below_size (by repeat (first | (with_reducible first | exact HB.out | apply below_alloc | apply pw_below_drewN | apply below_drew1) | exact HB.out)))); have n1_ := Aside0.mk (below_step (by repeat (first | (with_reducible first | exact HB.out | apply below_alloc | apply pw_below_drewN | apply below_drew1) | exact HB.out)) hb); clear HB; have HO122 := n0_; have HB := n1_; clear n0_ n1_; clear hb ho18; obtain ⟨Ao19, co19, eo19⟩ := Kd.R_slice HO122.out; subst eo19) | ((with_reducible refine gate_callee (f := 11) rfl ?_); refine goesL_ (some 6) rfl rfl Try.func11 (by kernel_rfl) rfl #[.slice Ao19 y120.length co19, .int .i64 0, .int .i64 10] rfl (by (try simp only [List.map_toArray, List.map_cons, List.map_nil]); first | done | rfl | (simp only [List.length_drop, List.length_take]; rfl)) ?_; (with_reducible refine (fixed_Bounds.calls k _ _ y120 0 10 t123 t124 true _ ?side1 ?side2 A1.out).mono ?_); (case side1 => repeat (first | exact (Kd.R_reads' HO122.out).2.2 | (with_reducible refine Kd.C_alloc ?_ _) | (with_reducible refine Kd.C_drewN ?_ _) | (with_reducible refine Kd.C_drew ?_))); (case side2 => exact (Kd.R_reads' HO122.out).2.1); rintro e w20 ⟨rfl, hb⟩; refine ⟨_, rfl, ?_⟩; have n0_ := Aside0.mk (Kd.R_below (by (with_reducible repeat (first | apply Kd.R_alloc | apply Kd.R_drewN | apply Kd.R_drew)); exact HO122.out) hb); have n1_ := Aside0.mk (below_step (by repeat (first | (with_reducible first | exact HB.out | apply below_alloc | apply pw_below_drewN | apply below_drew1) | exact HB.out)) hb); clear HO122; clear HB; have HO122 := n0_; have HB := n1_; clear n0_ n1_; (try clear hb); (try clear hb2); (try clear hk); (try clear hi)) | ((with_reducible refine gate_callee (f := 20) rfl ?_); refine goesL_ (some 10) rfl rfl Try.func20 (by kernel_rfl) rfl #[.int .i64 5, .int .i64 1] rfl (by (try simp only [List.map_toArray, List.map_cons, List.map_nil]); first | done | rfl | (simp only [List.length_drop, List.length_take]; rfl)) ?_; (with_reducible refine (fixed_Shift.calls k 5 1 t126 _ A2.out).mono ?_); rintro e w' ⟨rfl, ⟨nd, rfl⟩⟩; refine ⟨_, rfl, ?_⟩) | (go_at_call 20; (with_reducible refine (fixed_Shift.calls k (-5) 1 t127 _ A4.out).mono ?_); rintro e w' ⟨rfl, ⟨nd, rfl⟩⟩) | (go_at_call 20; (with_reducible refine (fixed_Shift.calls k (-6) 2 t128 _ A6.out).mono ?_); rintro e w' ⟨rfl, ⟨nd, rfl⟩⟩))
              go_ret
              exact ⟨by first | rfl | (simp [errW_none, errW_some] <;> rfl) | (simp [*, errW_none, errW_some] <;> rfl), by repeat (first | (with_reducible first | exact HB.out | apply below_alloc | apply pw_below_drewN | apply below_drew1) | exact HB.out)⟩
          · rw [if_neg c9] at H
            have c9b0 : (t123 == (-20)) = false := beq_eq_false_iff_ne.mpr c9
            have c9b1 : (t123 != (-20)) = true := bne_iff_ne.mpr c9
            obtain rfl := Option.some.inj H
            go_enter Try.func15, Try.ntmps15
            go_wp2_with (first | ((with_reducible refine gate_dst (N := 5) rfl ?_); refine Kd.R_lit (Kd.int .i64) _ 3 ?hg (N := 5) ?hd (xs := ([1, (-2)] : List Int)) (inner := [.int .i64 1, .int .i64 (-2)]) (ok := fun _ => True) (okp := fun _ => True) ?hr ?hp (fun _ hk => hk) trivial (Below.refl _ _) (Nat.le_refl _) (by simp) ?_; (case hd => rfl); (case hg => rfl); (case hr => first | (go_simp; done) | (go_simp; rfl)); (case hp => exact (Reps.one (show Kd.M (Kd.int .i64) _ _ _ 1 [.int .i64 1] from rfl) (Reps.one (show Kd.M (Kd.int .i64) _ _ _ (-2) [.int .i64 (-2)] from rfl) (Reps.none _ _)))); intro v121 w21 ho22 hb hg_ hnew_; clear hg_ hnew_; (first | rw [← Ny120.out] at ho22 | (simp only [Int.reduceToNat] at ho22; rw [← Ny120.out] at ho22)); have n0_ := Aside0.mk (Kd.R_lower ho22 (below_size (by repeat (first | (with_reducible first | exact HB.out | apply below_alloc | apply pw_below_drewN | apply below_drew1) | exact HB.out)))); have n1_ := Aside0.mk (below_step (by repeat (first | (with_reducible first | exact HB.out | apply below_alloc | apply pw_below_drewN | apply below_drew1) | exact HB.out)) hb); clear HB; have HO122 := n0_; have HB := n1_; clear n0_ n1_; clear hb ho22; obtain ⟨Ao23, co23, eo23⟩ := Kd.R_slice HO122.out; subst eo23) | ((with_reducible refine gate_callee (f := 11) rfl ?_); refine goesL_ (some 6) rfl rfl Try.func11 (by kernel_rfl) rfl #[.slice Ao23 y120.length co23, .int .i64 0, .int .i64 10] rfl (by (try simp only [List.map_toArray, List.map_cons, List.map_nil]); first | done | rfl | (simp only [List.length_drop, List.length_take]; rfl)) ?_; (with_reducible refine (fixed_Bounds.calls k _ _ y120 0 10 t123 t124 true _ ?side1 ?side2 A1.out).mono ?_); (case side1 => repeat (first | exact (Kd.R_reads' HO122.out).2.2 | (with_reducible refine Kd.C_alloc ?_ _) | (with_reducible refine Kd.C_drewN ?_ _) | (with_reducible refine Kd.C_drew ?_))); (case side2 => exact (Kd.R_reads' HO122.out).2.1); rintro e w24 ⟨rfl, hb⟩; refine ⟨_, rfl, ?_⟩; have n0_ := Aside0.mk (Kd.R_below (by (with_reducible repeat (first | apply Kd.R_alloc | apply Kd.R_drewN | apply Kd.R_drew)); exact HO122.out) hb); have n1_ := Aside0.mk (below_step (by repeat (first | (with_reducible first | exact HB.out | apply below_alloc | apply pw_below_drewN | apply below_drew1) | exact HB.out)) hb); clear HO122; clear HB; have HO122 := n0_; have HB := n1_; clear n0_ n1_; (try clear hb); (try clear hb2); (try clear hk); (try clear hi)) | ((with_reducible refine gate_callee (f := 20) rfl ?_); refine goesL_ (some 10) rfl rfl Try.func20 (by kernel_rfl) rfl #[.int .i64 5, .int .i64 1] rfl (by (try simp only [List.map_toArray, List.map_cons, List.map_nil]); first | done | rfl | (simp only [List.length_drop, List.length_take]; rfl)) ?_; (with_reducible refine (fixed_Shift.calls k 5 1 t126 _ A2.out).mono ?_); rintro e w' ⟨rfl, ⟨nd, rfl⟩⟩; refine ⟨_, rfl, ?_⟩) | (go_at_call 20; (with_reducible refine (fixed_Shift.calls k (-5) 1 t127 _ A4.out).mono ?_); rintro e w' ⟨rfl, ⟨nd, rfl⟩⟩) | (go_at_call 20; (with_reducible refine (fixed_Shift.calls k (-6) 2 t128 _ A6.out).mono ?_); rintro e w' ⟨rfl, ⟨nd, rfl⟩⟩))
            go_ret
            exact ⟨by first | rfl | (simp [errW_none, errW_some] <;> rfl) | (simp [*, errW_none, errW_some] <;> rfl), by repeat (first | (with_reducible first | exact HB.out | apply below_alloc | apply pw_below_drewN | apply below_drew1) | exact HB.out)⟩
        · replace c8 := Bool.eq_false_iff.mpr c8
          subst c8
          have H1 : (some false) = some r := by rw [if_neg (show ¬ (false = true) by decide)] at H; exact H
          clear H
          have H := H1
          clear H1
          obtain rfl := Option.some.inj H
          go_enter Try.func15, Try.ntmps15
          go_wp2_with (first | ((with_reducible refine gate_dst (N := 5) rfl ?_); refine Kd.R_lit (Kd.int .i64) _ 3 ?hg (N := 5) ?hd (xs := ([1, (-2)] : List Int)) (inner := [.int .i64 1, .int .i64 (-2)]) (ok := fun _ => True) (okp := fun _ => True) ?hr ?hp (fun _ hk => hk) trivial (Below.refl _ _) (Nat.le_refl _) (by simp) ?_; (case hd => rfl); (case hg => rfl); (case hr => first | (go_simp; done) | (go_simp; rfl)); (case hp => exact (Reps.one (show Kd.M (Kd.int .i64) _ _ _ 1 [.int .i64 1] from rfl) (Reps.one (show Kd.M (Kd.int .i64) _ _ _ (-2) [.int .i64 (-2)] from rfl) (Reps.none _ _)))); intro v121 w25 ho26 hb hg_ hnew_; clear hg_ hnew_; (first | rw [← Ny120.out] at ho26 | (simp only [Int.reduceToNat] at ho26; rw [← Ny120.out] at ho26)); have n0_ := Aside0.mk (Kd.R_lower ho26 (below_size (by repeat (first | (with_reducible first | exact HB.out | apply below_alloc | apply pw_below_drewN | apply below_drew1) | exact HB.out)))); have n1_ := Aside0.mk (below_step (by repeat (first | (with_reducible first | exact HB.out | apply below_alloc | apply pw_below_drewN | apply below_drew1) | exact HB.out)) hb); clear HB; have HO122 := n0_; have HB := n1_; clear n0_ n1_; clear hb ho26; obtain ⟨Ao27, co27, eo27⟩ := Kd.R_slice HO122.out; subst eo27) | ((with_reducible refine gate_callee (f := 11) rfl ?_); refine goesL_ (some 6) rfl rfl Try.func11 (by kernel_rfl) rfl #[.slice Ao27 y120.length co27, .int .i64 0, .int .i64 10] rfl (by (try simp only [List.map_toArray, List.map_cons, List.map_nil]); first | done | rfl | (simp only [List.length_drop, List.length_take]; rfl)) ?_; (with_reducible refine (fixed_Bounds.calls k _ _ y120 0 10 t123 t124 false _ ?side1 ?side2 A1.out).mono ?_); (case side1 => repeat (first | exact (Kd.R_reads' HO122.out).2.2 | (with_reducible refine Kd.C_alloc ?_ _) | (with_reducible refine Kd.C_drewN ?_ _) | (with_reducible refine Kd.C_drew ?_))); (case side2 => exact (Kd.R_reads' HO122.out).2.1); rintro e w28 ⟨rfl, hb⟩; refine ⟨_, rfl, ?_⟩; have n0_ := Aside0.mk (Kd.R_below (by (with_reducible repeat (first | apply Kd.R_alloc | apply Kd.R_drewN | apply Kd.R_drew)); exact HO122.out) hb); have n1_ := Aside0.mk (below_step (by repeat (first | (with_reducible first | exact HB.out | apply below_alloc | apply pw_below_drewN | apply below_drew1) | exact HB.out)) hb); clear HO122; clear HB; have HO122 := n0_; have HB := n1_; clear n0_ n1_; (try clear hb); (try clear hb2); (try clear hk); (try clear hi)) | ((with_reducible refine gate_callee (f := 20) rfl ?_); refine goesL_ (some 10) rfl rfl Try.func20 (by kernel_rfl) rfl #[.int .i64 5, .int .i64 1] rfl (by (try simp only [List.map_toArray, List.map_cons, List.map_nil]); first | done | rfl | (simp only [List.length_drop, List.length_take]; rfl)) ?_; (with_reducible refine (fixed_Shift.calls k 5 1 t126 _ A2.out).mono ?_); rintro e w' ⟨rfl, ⟨nd, rfl⟩⟩; refine ⟨_, rfl, ?_⟩) | (go_at_call 20; (with_reducible refine (fixed_Shift.calls k (-5) 1 t127 _ A4.out).mono ?_); rintro e w' ⟨rfl, ⟨nd, rfl⟩⟩) | (go_at_call 20; (with_reducible refine (fixed_Shift.calls k (-6) 2 t128 _ A6.out).mono ?_); rintro e w' ⟨rfl, ⟨nd, rfl⟩⟩))
          go_ret
          exact ⟨by first | rfl | (simp [errW_none, errW_some] <;> rfl) | (simp [*, errW_none, errW_some] <;> rfl), by repeat (first | (with_reducible first | exact HB.out | apply below_alloc | apply pw_below_drewN | apply below_drew1) | exact HB.out)⟩
      · rw [if_neg c7] at H
        have c7b0 : (t128 == (-1)) = false := beq_eq_false_iff_ne.mpr c7
        have c7b1 : (t128 != (-1)) = true := bne_iff_ne.mpr c7
        obtain rfl := Option.some.inj H
        go_enter Try.func15, Try.ntmps15
        go_wp2_with (first | ((with_reducible refine gate_dst (N := 5) rfl ?_); refine Kd.R_lit (Kd.int .i64) _ 3 ?hg (N := 5) ?hd (xs := ([1, (-2)] : List Int)) (inner := [.int .i64 1, .int .i64 (-2)]) (ok := fun _ => True) (okp := fun _ => True) ?hr ?hp (fun _ hk => hk) trivial (Below.refl _ _) (Nat.le_refl _) (by simp) ?_; (case hd => rfl); (case hg => rfl); (case hr => first | (go_simp; done) | (go_simp; rfl)); (case hp => exact (Reps.one (show Kd.M (Kd.int .i64) _ _ _ 1 [.int .i64 1] from rfl) (Reps.one (show Kd.M (Kd.int .i64) _ _ _ (-2) [.int .i64 (-2)] from rfl) (Reps.none _ _)))); intro v121 w29 ho30 hb hg_ hnew_; clear hg_ hnew_; (first | rw [← Ny120.out] at ho30 | (simp only [Int.reduceToNat] at ho30; rw [← Ny120.out] at ho30)); have n0_ := Aside0.mk (Kd.R_lower ho30 (below_size (by repeat (first | (with_reducible first | exact HB.out | apply below_alloc | apply pw_below_drewN | apply below_drew1) | exact HB.out)))); have n1_ := Aside0.mk (below_step (by repeat (first | (with_reducible first | exact HB.out | apply below_alloc | apply pw_below_drewN | apply below_drew1) | exact HB.out)) hb); clear HB; have HO122 := n0_; have HB := n1_; clear n0_ n1_; clear hb ho30; obtain ⟨Ao31, co31, eo31⟩ := Kd.R_slice HO122.out; subst eo31) | ((with_reducible refine gate_callee (f := 11) rfl ?_); refine goesL_ (some 6) rfl rfl Try.func11 (by kernel_rfl) rfl #[.slice Ao31 y120.length co31, .int .i64 0, .int .i64 10] rfl (by (try simp only [List.map_toArray, List.map_cons, List.map_nil]); first | done | rfl | (simp only [List.length_drop, List.length_take]; rfl)) ?_; (with_reducible refine (fixed_Bounds.calls k _ _ y120 0 10 t123 t124 t125 _ ?side1 ?side2 A1.out).mono ?_); (case side1 => repeat (first | exact (Kd.R_reads' HO122.out).2.2 | (with_reducible refine Kd.C_alloc ?_ _) | (with_reducible refine Kd.C_drewN ?_ _) | (with_reducible refine Kd.C_drew ?_))); (case side2 => exact (Kd.R_reads' HO122.out).2.1); rintro e w32 ⟨rfl, hb⟩; refine ⟨_, rfl, ?_⟩; have n0_ := Aside0.mk (Kd.R_below (by (with_reducible repeat (first | apply Kd.R_alloc | apply Kd.R_drewN | apply Kd.R_drew)); exact HO122.out) hb); have n1_ := Aside0.mk (below_step (by repeat (first | (with_reducible first | exact HB.out | apply below_alloc | apply pw_below_drewN | apply below_drew1) | exact HB.out)) hb); clear HO122; clear HB; have HO122 := n0_; have HB := n1_; clear n0_ n1_; (try clear hb); (try clear hb2); (try clear hk); (try clear hi)) | ((with_reducible refine gate_callee (f := 20) rfl ?_); refine goesL_ (some 10) rfl rfl Try.func20 (by kernel_rfl) rfl #[.int .i64 5, .int .i64 1] rfl (by (try simp only [List.map_toArray, List.map_cons, List.map_nil]); first | done | rfl | (simp only [List.length_drop, List.length_take]; rfl)) ?_; (with_reducible refine (fixed_Shift.calls k 5 1 t126 _ A2.out).mono ?_); rintro e w' ⟨rfl, ⟨nd, rfl⟩⟩; refine ⟨_, rfl, ?_⟩) | (go_at_call 20; (with_reducible refine (fixed_Shift.calls k (-5) 1 t127 _ A4.out).mono ?_); rintro e w' ⟨rfl, ⟨nd, rfl⟩⟩) | (go_at_call 20; (with_reducible refine (fixed_Shift.calls k (-6) 2 t128 _ A6.out).mono ?_); rintro e w' ⟨rfl, ⟨nd, rfl⟩⟩))
        go_ret
        exact ⟨by first | rfl | (simp [errW_none, errW_some] <;> rfl) | (simp [*, errW_none, errW_some] <;> rfl), by repeat (first | (with_reducible first | exact HB.out | apply below_alloc | apply pw_below_drewN | apply below_drew1) | exact HB.out)⟩
    · rw [if_neg c5] at H
      have c5b0 : (t127 == (-2)) = false := beq_eq_false_iff_ne.mpr c5
      have c5b1 : (t127 != (-2)) = true := bne_iff_ne.mpr c5
      obtain rfl := Option.some.inj H
      go_enter Try.func15, Try.ntmps15
      go_wp2_with (first | ((with_reducible refine gate_dst (N := 5) rfl ?_); refine Kd.R_lit (Kd.int .i64) _ 3 ?hg (N := 5) ?hd (xs := ([1, (-2)] : List Int)) (inner := [.int .i64 1, .int .i64 (-2)]) (ok := fun _ => True) (okp := fun _ => True) ?hr ?hp (fun _ hk => hk) trivial (Below.refl _ _) (Nat.le_refl _) (by simp) ?_; (case hd => rfl); (case hg => rfl); (case hr => first | (go_simp; done) | (go_simp; rfl)); (case hp => exact (Reps.one (show Kd.M (Kd.int .i64) _ _ _ 1 [.int .i64 1] from rfl) (Reps.one (show Kd.M (Kd.int .i64) _ _ _ (-2) [.int .i64 (-2)] from rfl) (Reps.none _ _)))); intro v121 w33 ho34 hb hg_ hnew_; clear hg_ hnew_; (first | rw [← Ny120.out] at ho34 | (simp only [Int.reduceToNat] at ho34; rw [← Ny120.out] at ho34)); have n0_ := Aside0.mk (Kd.R_lower ho34 (below_size (by repeat (first | (with_reducible first | exact HB.out | apply below_alloc | apply pw_below_drewN | apply below_drew1) | exact HB.out)))); have n1_ := Aside0.mk (below_step (by repeat (first | (with_reducible first | exact HB.out | apply below_alloc | apply pw_below_drewN | apply below_drew1) | exact HB.out)) hb); clear HB; have HO122 := n0_; have HB := n1_; clear n0_ n1_; clear hb ho34; obtain ⟨Ao35, co35, eo35⟩ := Kd.R_slice HO122.out; subst eo35) | ((with_reducible refine gate_callee (f := 11) rfl ?_); refine goesL_ (some 6) rfl rfl Try.func11 (by kernel_rfl) rfl #[.slice Ao35 y120.length co35, .int .i64 0, .int .i64 10] rfl (by (try simp only [List.map_toArray, List.map_cons, List.map_nil]); first | done | rfl | (simp only [List.length_drop, List.length_take]; rfl)) ?_; (with_reducible refine (fixed_Bounds.calls k _ _ y120 0 10 t123 t124 t125 _ ?side1 ?side2 A1.out).mono ?_); (case side1 => repeat (first | exact (Kd.R_reads' HO122.out).2.2 | (with_reducible refine Kd.C_alloc ?_ _) | (with_reducible refine Kd.C_drewN ?_ _) | (with_reducible refine Kd.C_drew ?_))); (case side2 => exact (Kd.R_reads' HO122.out).2.1); rintro e w36 ⟨rfl, hb⟩; refine ⟨_, rfl, ?_⟩; have n0_ := Aside0.mk (Kd.R_below (by (with_reducible repeat (first | apply Kd.R_alloc | apply Kd.R_drewN | apply Kd.R_drew)); exact HO122.out) hb); have n1_ := Aside0.mk (below_step (by repeat (first | (with_reducible first | exact HB.out | apply below_alloc | apply pw_below_drewN | apply below_drew1) | exact HB.out)) hb); clear HO122; clear HB; have HO122 := n0_; have HB := n1_; clear n0_ n1_; (try clear hb); (try clear hb2); (try clear hk); (try clear hi)) | ((with_reducible refine gate_callee (f := 20) rfl ?_); refine goesL_ (some 10) rfl rfl Try.func20 (by kernel_rfl) rfl #[.int .i64 5, .int .i64 1] rfl (by (try simp only [List.map_toArray, List.map_cons, List.map_nil]); first | done | rfl | (simp only [List.length_drop, List.length_take]; rfl)) ?_; (with_reducible refine (fixed_Shift.calls k 5 1 t126 _ A2.out).mono ?_); rintro e w' ⟨rfl, ⟨nd, rfl⟩⟩; refine ⟨_, rfl, ?_⟩) | (go_at_call 20; (with_reducible refine (fixed_Shift.calls k (-5) 1 t127 _ A4.out).mono ?_); rintro e w' ⟨rfl, ⟨nd, rfl⟩⟩))
      go_ret
      exact ⟨by first | rfl | (simp [errW_none, errW_some] <;> rfl) | (simp [*, errW_none, errW_some] <;> rfl), by repeat (first | (with_reducible first | exact HB.out | apply below_alloc | apply pw_below_drewN | apply below_drew1) | exact HB.out)⟩
  · rw [if_neg c3] at H
    have c3b0 : (t126 == 3) = false := beq_eq_false_iff_ne.mpr c3
    have c3b1 : (t126 != 3) = true := bne_iff_ne.mpr c3
    obtain rfl := Option.some.inj H
    go_enter Try.func15, Try.ntmps15
    go_wp2_with (first | ((with_reducible refine gate_dst (N := 5) rfl ?_); refine Kd.R_lit (Kd.int .i64) _ 3 ?hg (N := 5) ?hd (xs := ([1, (-2)] : List Int)) (inner := [.int .i64 1, .int .i64 (-2)]) (ok := fun _ => True) (okp := fun _ => True) ?hr ?hp (fun _ hk => hk) trivial (Below.refl _ _) (Nat.le_refl _) (by simp) ?_; (case hd => rfl); (case hg => rfl); (case hr => first | (go_simp; done) | (go_simp; rfl)); (case hp => exact (Reps.one (show Kd.M (Kd.int .i64) _ _ _ 1 [.int .i64 1] from rfl) (Reps.one (show Kd.M (Kd.int .i64) _ _ _ (-2) [.int .i64 (-2)] from rfl) (Reps.none _ _)))); intro v121 w37 ho38 hb hg_ hnew_; clear hg_ hnew_; (first | rw [← Ny120.out] at ho38 | (simp only [Int.reduceToNat] at ho38; rw [← Ny120.out] at ho38)); have n0_ := Aside0.mk (Kd.R_lower ho38 (below_size (by repeat (first | (with_reducible first | exact HB.out | apply below_alloc | apply pw_below_drewN | apply below_drew1) | exact HB.out)))); have n1_ := Aside0.mk (below_step (by repeat (first | (with_reducible first | exact HB.out | apply below_alloc | apply pw_below_drewN | apply below_drew1) | exact HB.out)) hb); clear HB; have HO122 := n0_; have HB := n1_; clear n0_ n1_; clear hb ho38; obtain ⟨Ao39, co39, eo39⟩ := Kd.R_slice HO122.out; subst eo39) | ((with_reducible refine gate_callee (f := 11) rfl ?_); refine goesL_ (some 6) rfl rfl Try.func11 (by kernel_rfl) rfl #[.slice Ao39 y120.length co39, .int .i64 0, .int .i64 10] rfl (by (try simp only [List.map_toArray, List.map_cons, List.map_nil]); first | done | rfl | (simp only [List.length_drop, List.length_take]; rfl)) ?_; (with_reducible refine (fixed_Bounds.calls k _ _ y120 0 10 t123 t124 t125 _ ?side1 ?side2 A1.out).mono ?_); (case side1 => repeat (first | exact (Kd.R_reads' HO122.out).2.2 | (with_reducible refine Kd.C_alloc ?_ _) | (with_reducible refine Kd.C_drewN ?_ _) | (with_reducible refine Kd.C_drew ?_))); (case side2 => exact (Kd.R_reads' HO122.out).2.1); rintro e w40 ⟨rfl, hb⟩; refine ⟨_, rfl, ?_⟩; have n0_ := Aside0.mk (Kd.R_below (by (with_reducible repeat (first | apply Kd.R_alloc | apply Kd.R_drewN | apply Kd.R_drew)); exact HO122.out) hb); have n1_ := Aside0.mk (below_step (by repeat (first | (with_reducible first | exact HB.out | apply below_alloc | apply pw_below_drewN | apply below_drew1) | exact HB.out)) hb); clear HO122; clear HB; have HO122 := n0_; have HB := n1_; clear n0_ n1_; (try clear hb); (try clear hb2); (try clear hk); (try clear hi)) | ((with_reducible refine gate_callee (f := 20) rfl ?_); refine goesL_ (some 10) rfl rfl Try.func20 (by kernel_rfl) rfl #[.int .i64 5, .int .i64 1] rfl (by (try simp only [List.map_toArray, List.map_cons, List.map_nil]); first | done | rfl | (simp only [List.length_drop, List.length_take]; rfl)) ?_; (with_reducible refine (fixed_Shift.calls k 5 1 t126 _ A2.out).mono ?_); rintro e w' ⟨rfl, ⟨nd, rfl⟩⟩; refine ⟨_, rfl, ?_⟩))
    go_ret
    exact ⟨by first | rfl | (simp [errW_none, errW_some] <;> rfl) | (simp [*, errW_none, errW_some] <;> rfl), by repeat (first | (with_reducible first | exact HB.out | apply below_alloc | apply pw_below_drewN | apply below_drew1) | exact HB.out)⟩

end Go.Proofs.Ytepbjipmfchpnaa.PFixedWithin
