-- Written by a program of the session (wip/tools/pack.py): the printed texts, pruned; checked by Lean.
import Derived.Test.YthgmndomnibefaaKConvolveMovesa
import Derived.Test.YthgmndomnibefaaKConvolveMovesx0
import Derived.Test.YthgmndomnibefaaKConvolveMovesx2
namespace Go.Proofs.Ythgmndomnibefaa.PConvolveMoves
open Go.RowKit Go.Proofs.YthgmndomnibefaaW.PrintWords Go.Proofs.YthgmndomnibefaaW.PrintLast Go.Proofs.YthgmndomnibefaaW.PrintMore
attribute [local go_sem] max2_int min2_int max_two min_two max_three min_three max_four min_four   -- for this text's walks alone
set_option linter.unusedVariables false
set_option linter.unusedSimpArgs false
def fixed_Bounds.l0 : Nat → List Int → Int → Int → Int → Int → Int → Int → Int → Option (Int × Int × Bool)
  | 0, _, _, _, _, _, _, _, _ => none
  | k + 1, l, lo, hi, i, a, b, c, d => if i < (l.length : Int) then (if 0 ≤ i then ((fixed_wide_add.f a b (mn (wrap64 ((rd l i) * lo)) (wrap64 ((rd l i) * hi)))).bind fun p => ((fixed_wide_add.f c d (mx (wrap64 ((rd l i) * lo)) (wrap64 ((rd l i) * hi)))).bind fun q => (fixed_Bounds.l0 k l lo hi (wrap64 (i + 1)) p.1 p.2 q.1 q.2))) else none) else ((fixed_wide_value.f a b).bind fun p => ((fixed_wide_value.f c d).bind fun q => (if p.2.1 = true then (if q.2.1 = true then (some (p.1, q.1, true)) else (some (0, 0, false))) else (some (0, 0, false)))))
def fixed_Bounds.f (k : Nat) (l0 : List Int) (a1 : Int) (a2 : Int) : Option (Int × Int × Bool) := (fixed_Weights.f k l0).bind fun t => (if t = 0 then (if a1 > a2 then (some (0, 0, false)) else (if a1 < (-68719476736) then (some (0, 0, false)) else (if a2 > 68719476736 then (some (0, 0, false)) else (fixed_Bounds.l0 k l0 a1 a2 0 0 0 0 0)))) else (some (0, 0, false)))
theorem fixed_Bounds.mono_l : ∀ k, (∀ y0 y1 y2 y3 y4 y5 y6 y7, LeO (fixed_Bounds.l0 k y0 y1 y2 y3 y4 y5 y6 y7) (fixed_Bounds.l0 (k + 1) y0 y1 y2 y3 y4 y5 y6 y7))
  | 0 => fun _ _ _ _ _ _ _ _ r h => by simp [fixed_Bounds.l0] at h
  | k + 1 => by
    have ih0 := fixed_Bounds.mono_l k
    intro y0 y1 y2 y3 y4 y5 y6 y7
    unfold fixed_Bounds.l0
    repeat' first
      | (with_reducible exact ih0 _ _ _ _ _ _ _ _)
      | (with_reducible exact LeO.refl _)
      | (with_reducible exact LeO.none _)
      | (with_reducible refine LeO.ite ?_ ?_)
      | (with_reducible refine LeO.bind ?_ (fun _ => ?_))
      | exact ih0 _ _ _ _ _ _ _ _
      | refine LeO.ite ?_ ?_
      | refine LeO.bind ?_ (fun _ => ?_)
theorem fixed_Bounds.mono : ∀ a0 a1 a2 k, LeO (fixed_Bounds.f k a0 a1 a2) (fixed_Bounds.f (k + 1) a0 a1 a2) := by
  intro a0 a1 a2 k
  have ih0 := fixed_Bounds.mono_l k
  unfold fixed_Bounds.f
  repeat' first
      | (with_reducible exact ih0 _ _ _ _ _ _ _ _)
      | (with_reducible exact fixed_Weights.mono _ _)
      | (with_reducible exact LeO.refl _)
      | (with_reducible exact LeO.none _)
      | (with_reducible refine LeO.ite ?_ ?_)
      | (with_reducible refine LeO.bind ?_ (fun _ => ?_))
      | exact ih0 _ _ _ _ _ _ _ _
      | refine LeO.ite ?_ ?_
      | refine LeO.bind ?_ (fun _ => ?_)
theorem fixed_Bounds.keepS {w0 W W' : World} {g g' : Nat} {f0 f1 : Int} (h : IsS70 w0 W g f0 f1) (hk : KeepBut W W' g' none) (hn : g ≠ g') : IsS70 w0 W' g f0 f1 := by
  obtain ⟨hb, hg⟩ := h
  exact ⟨hk.blk hb hn (by simp), hg⟩
set_option maxHeartbeats 8000000 in
set_option maxRecDepth 100000 in
theorem fixed_Bounds.calls (k : Nat) (A0 : Option Addr) (c0 : Nat) (l0 : List Int) (a1 : Int) (a2 : Int) (r1 : Int) (r2 : Int) (r3 : Bool) (w : World) (hr0 : Kd.C (Kd.int .i64) w A0 l0.length l0) (hc0 : l0.length ≤ c0) (h : fixed_Bounds.f k l0 a1 a2 = some (r1, r2, r3)) :
    Calls Try.prog 29 #[.slice A0 l0.length c0, .int .i64 a1, .int .i64 a2] w fun e w' => e = .returned (.tuple #[.int .i64 r1, .int .i64 r2, .bool r3]) ∧ Below w.heap.size w w' := by
  have HR0 := Aside0.mk hr0
  have HC0 := Aside0.mk hc0
  clear hr0 hc0
  have HB := Aside0.mk (Below.refl w.heap.size w)
  unfold fixed_Bounds.f at h
  replace h := Option.bind_eq_some_iff.mp h
  obtain ⟨t, A50, H⟩ := h
  have A5 := Aside0.mk A50
  clear A50
  by_cases c1 : t = 0
  · rw [if_pos c1] at H
    have c1b0 : (t == 0) = true := beq_iff_eq.mpr c1
    have c1b1 : (t != 0) = false := bne_eq_false_iff_eq.mpr c1
    clear c1
    by_cases c2 : a1 > a2
    · rw [if_pos c2] at H
      have c2b0 : decide (a2 < a1) = true := decide_eq_true c2
      clear c2
      simp only [Option.some.injEq, Prod.mk.injEq] at H
      obtain ⟨rfl, rfl, rfl⟩ := H
      go_enter Try.func29, Try.ntmps29
      go_wp2_with (go_at_call 27; (with_reducible refine (fixed_Weights.calls k _ _ l0 t _ ?side1 ?side2 A5.out).mono ?_); (case side1 => exact HR0.out); (case side2 => exact HC0.out); rintro e w' ⟨rfl, ⟨nd, rfl⟩⟩)
      go_ret3
      exact ⟨rfl, q96_⟩
    · rw [if_neg c2] at H
      have c2b0 : decide (a2 < a1) = false := decide_eq_false c2
      clear c2
      by_cases c3 : a1 < (-68719476736)
      · rw [if_pos c3] at H
        have c3b0 : decide (a1 < (-68719476736)) = true := decide_eq_true c3
        clear c3
        simp only [Option.some.injEq, Prod.mk.injEq] at H
        obtain ⟨rfl, rfl, rfl⟩ := H
        go_enter Try.func29, Try.ntmps29
        go_wp2_with (go_at_call 27; (with_reducible refine (fixed_Weights.calls k _ _ l0 t _ ?side1 ?side2 A5.out).mono ?_); (case side1 => exact HR0.out); (case side2 => exact HC0.out); rintro e w' ⟨rfl, ⟨nd, rfl⟩⟩)
        go_ret3
        exact ⟨rfl, q96_⟩
      · rw [if_neg c3] at H
        have c3b0 : decide (a1 < (-68719476736)) = false := decide_eq_false c3
        clear c3
        by_cases c4 : a2 > 68719476736
        · rw [if_pos c4] at H
          have c4b0 : decide (68719476736 < a2) = true := decide_eq_true c4
          clear c4
          simp only [Option.some.injEq, Prod.mk.injEq] at H
          obtain ⟨rfl, rfl, rfl⟩ := H
          go_enter Try.func29, Try.ntmps29
          go_wp2_with (go_at_call 27; (with_reducible refine (fixed_Weights.calls k _ _ l0 t _ ?side1 ?side2 A5.out).mono ?_); (case side1 => exact HR0.out); (case side2 => exact HC0.out); rintro e w' ⟨rfl, ⟨nd, rfl⟩⟩)
          go_ret3
          exact ⟨rfl, q96_⟩
        · rw [if_neg c4] at H
          have c4b0 : decide (68719476736 < a2) = false := decide_eq_false c4
          clear c4
          have H' := Aside0.mk H
          clear H
          have hu70 := Try.underlying70
          go_enter Try.func29, Try.ntmps29
          go_wp2_with (go_at_call 27; (with_reducible refine (fixed_Weights.calls k _ _ l0 t _ ?side1 ?side2 A5.out).mono ?_); (case side1 => exact HR0.out); (case side2 => exact HC0.out); rintro e w' ⟨rfl, ⟨nd, rfl⟩⟩)
          go_loopg [37] k (fun kq v37 w' => ∃ (i a b c d : Int), v37 = .int .i64 i ∧ Aside0 (fixed_Bounds.l0 kq l0 a1 a2 i a b c d = some (r1, r2, r3)) ∧ Aside0 (kq ≤ k) ∧ Aside0 (IsS70 w w' w.heap.size a b) ∧ Aside0 (IsS70 w w' (w.heap.size + 1) c d) ∧ Aside0 (Below w.heap.size w w'))
          case atStart =>
            refine ⟨0, 0, 0, 0, 0, rfl, H', ⟨Nat.le_refl _⟩, ⟨?_⟩, ⟨?_⟩, ⟨?_⟩⟩
            · repeat (first | exact IsS70.new w (w.drewN nd) 0 0 (by repeat (first | exact HB.out | apply pw_below_drewN)) | apply IsS70.alloc | apply IsS70.drewN | apply IsS70.drew)
            · refine (?_ : IsS70 w _ (((w.drewN nd).alloc (Obj.cells #[Value.int IntKind.i64 0, Value.int IntKind.i64 0] 70)).heap.size) 0 0) |> fun h => by simpa using h
              exact IsS70.new w _ 0 0 (by repeat (first | exact HB.out | apply below_alloc | apply pw_below_drewN))
            · repeat (first | exact HB.out | apply below_alloc | apply pw_below_drewN | apply below_drew1)
          case round =>
            clear H'
            obtain ⟨i, a, b, c, d, rfl, HA, HK1, S10, S20, HB⟩ := hrel
            cases gk with
            | zero => exact absurd HA.out (by simp [fixed_Bounds.l0])
            | succ k1 =>
              have H := HA.out
              clear HA
              simp only [fixed_Bounds.l0] at H
              by_cases c5 : i < (l0.length : Int)
              · rw [if_pos c5] at H
                by_cases c6 : 0 ≤ i
                · rw [if_pos c6] at H
                  have c5b0 : decide (i < (l0.length : Int)) = true := decide_eq_true c5
                  have c6b0 : decide (0 ≤ i) = true := decide_eq_true c6
                  replace H := Option.bind_eq_some_iff.mp H
                  obtain ⟨⟨p1, p2⟩, A60, H⟩ := H
                  replace H := Option.bind_eq_some_iff.mp H
                  obtain ⟨⟨q1, q2⟩, A70, H⟩ := H
                  obtain ⟨jn, hjn⟩ : ∃ j_ : Int, (mn (wrap64 ((rd l0 i) * a1)) (wrap64 ((rd l0 i) * a2))) = j_ := ⟨_, rfl⟩
                  rw [hjn] at A60
                  have hjn_ : (if (wrap64 ((rd l0 i) * a2)) < (wrap64 ((rd l0 i) * a1)) then (wrap64 ((rd l0 i) * a2)) else (wrap64 ((rd l0 i) * a1))) = jn := hjn
                  obtain ⟨jx, hjx⟩ : ∃ j_ : Int, (mx (wrap64 ((rd l0 i) * a1)) (wrap64 ((rd l0 i) * a2))) = j_ := ⟨_, rfl⟩
                  rw [hjx] at A70
                  have hjx_ : (if (wrap64 ((rd l0 i) * a1)) < (wrap64 ((rd l0 i) * a2)) then (wrap64 ((rd l0 i) * a2)) else (wrap64 ((rd l0 i) * a1))) = jx := hjx
                  have A6 := Aside0.mk A60
                  have A7 := Aside0.mk A70
                  have H' := Aside0.mk H
                  clear A60 A70 H c5 c6
                  have p139 : 0 ≤ (i : Int) := of_decide_eq_true q145_
                  have q139 : i < (l0.length : Int) := of_decide_eq_true q145_
                  obtain ⟨ad139, e139, hx139_0⟩ := Kd.at_int HR0.out i p139 q139
                  cases e139
                  replace hx139_0 := (HB.out.cell (World.block_lt_of_cell? w _ hx139_0)).trans hx139_0
                  replace p139 := eq_true p139
                  replace q139 := eq_true q139
                  go_wp2_with (first | ((with_reducible refine gate_callee (f := 54) rfl ?_); refine goesL_ (some 50) rfl rfl Try.func54 (by kernel_rfl) rfl #[.pointer (some ⟨w.heap.size, 0, none⟩), .int .i64 jn] rfl q139_ ?_; (with_reducible refine (fixed_wide_add.calls w.heap.size a b jn p1 p2 w _ ?side1 ?side2 A6.out).mono ?_); (case side1 => exact S10.out); (case side2 => exact HB.out); rintro e w7 ⟨rfl, hi, hb, hk⟩; refine ⟨_, rfl, ?_⟩; have n1_ := Aside0.mk hi; have n2_ := Aside0.mk (fixed_Bounds.keepS S20.out hk (Nat.succ_ne_self _)); have n3_ := Aside0.mk hb; clear S10 S20 HB; have S10 := n1_; have S20 := n2_; have HB := n3_; clear n1_ n2_ n3_ hi hb hk) | ((with_reducible refine gate_callee (f := 54) rfl ?_); refine goesL_ (some 54) rfl rfl Try.func54 (by kernel_rfl) rfl #[.pointer (some ⟨w.heap.size + 1, 0, none⟩), .int .i64 jx] rfl q139_ ?_; (with_reducible refine (fixed_wide_add.calls (w.heap.size + 1) c d jx q1 q2 w _ ?side1 ?side2 A7.out).mono ?_); (case side1 => exact S20.out); (case side2 => exact HB.out); rintro e w8 ⟨rfl, hi, hb, hk⟩; refine ⟨_, rfl, ?_⟩; have n1_ := Aside0.mk hi; have n2_ := Aside0.mk (fixed_Bounds.keepS S10.out hk (Nat.ne_of_lt (Nat.lt_succ_self _))); have n3_ := Aside0.mk hb; clear S10 S20 HB; have S20 := n1_; have S10 := n2_; have HB := n3_; clear n1_ n2_ n3_ hi hb hk))
                  go_roundg k1
                  case measure => have := HK1.out; omega
                  case rel => exact ⟨(wrap64 (i + 1)), p1, p2, q1, q2, rfl, H', ⟨by have := HK1.out; omega⟩, S10, S20, HB⟩
                · rw [if_neg c6] at H
                  exact absurd H (by simp)
              · rw [if_neg c5] at H
                have c5b0 : decide (i < (l0.length : Int)) = false := decide_eq_false c5
                clear c5
                replace H := Option.bind_eq_some_iff.mp H
                obtain ⟨⟨p1, p2, p3, p4⟩, A60, H⟩ := H
                replace H := Option.bind_eq_some_iff.mp H
                obtain ⟨⟨q1, q2, q3, q4⟩, A70, H⟩ := H
                replace H : (if p2 = true then (if q2 = true then (some (p1, q1, true)) else (some (0, 0, false))) else (some (0, 0, false))) = some (r1, r2, r3) := H
                have A6 := Aside0.mk A60
                have A7 := Aside0.mk A70
                clear A60 A70
                rcases p2 with _ | _ <;> rcases q2 with _ | _
                all_goals
                  simp only [Option.some.injEq, Prod.mk.injEq, if_true, if_false, Bool.false_eq_true, eq_self_iff_true] at H
                  obtain ⟨rfl, rfl, rfl⟩ := H
                  go_wp2_with (first | ((with_reducible refine gate_callee (f := 55) rfl ?_); refine goesL_ (some 57) rfl rfl Try.func55 (by kernel_rfl) rfl #[.pointer (some ⟨w.heap.size, 0, none⟩)] rfl q139_ ?_; (with_reducible refine (fixed_wide_value.calls w.heap.size a b _ _ _ _ w _ ?side1 ?side2 A6.out).mono ?_); (case side1 => exact S10.out); (case side2 => exact HB.out); rintro e w7 ⟨rfl, hi, hb, hk⟩; refine ⟨_, rfl, ?_⟩; have n2_ := Aside0.mk (fixed_Bounds.keepS S20.out hk (Nat.succ_ne_self _)); have n3_ := Aside0.mk hb; clear S10 S20 HB; have S20 := n2_; have HB := n3_; clear n2_ n3_ hi hb hk) | ((with_reducible refine gate_callee (f := 55) rfl ?_); refine goesL_ (some 61) rfl rfl Try.func55 (by kernel_rfl) rfl #[.pointer (some ⟨w.heap.size + 1, 0, none⟩)] rfl q139_ ?_; (with_reducible refine (fixed_wide_value.calls (w.heap.size + 1) c d _ _ _ _ w _ ?side1 ?side2 A7.out).mono ?_); (case side1 => exact S20.out); (case side2 => exact HB.out); rintro e w8 ⟨rfl, hi, hb, hk⟩; refine ⟨_, rfl, ?_⟩; have n3_ := Aside0.mk hb; clear S20 HB; have HB := n3_; clear n3_ hi hb hk))
                  go_ret3
                  exact ⟨rfl, q96_⟩
  · rw [if_neg c1] at H
    have c1b0 : (t == 0) = false := beq_eq_false_iff_ne.mpr c1
    have c1b1 : (t != 0) = true := bne_iff_ne.mpr c1
    clear c1
    simp only [Option.some.injEq, Prod.mk.injEq] at H
    obtain ⟨rfl, rfl, rfl⟩ := H
    go_enter Try.func29, Try.ntmps29
    go_wp2_with (go_at_call 27; (with_reducible refine (fixed_Weights.calls k _ _ l0 t _ ?side1 ?side2 A5.out).mono ?_); (case side1 => exact HR0.out); (case side2 => exact HC0.out); rintro e w' ⟨rfl, ⟨nd, rfl⟩⟩)
    go_ret3
    exact ⟨rfl, q96_⟩



mutual
def convolve_Check.j0 : Nat → Int → List Int → Int → Int → Bool → Option (Int)
  | 0, _, _, _, _, _ => none
  | k + 1, x0, x3, x4, x5, x31 => if x31 = true then (some 9) else ((fixed_Weights.f k x3).bind fun t121 => (if t121 = 0 then (if x4 < 0 then (convolve_Check.j1 k x0 x3 x5 true) else (convolve_Check.j1 k x0 x3 x5 (decide (x4 > 24)))) else (convolve_Check.j1 k x0 x3 x5 true)))
def convolve_Check.j1 : Nat → Int → List Int → Int → Bool → Option (Int)
  | 0, _, _, _, _ => none
  | k + 1, x0, x3, x5, x42 => if x42 = true then (some 10) else ((convolve_value.f x0).bind fun t122 => (if t122 = true then ((convolve_value.f x5).bind fun t123 => (convolve_Check.j2 k x0 x3 (!t123))) else (convolve_Check.j2 k x0 x3 true)))
def convolve_Check.j2 : Nat → Int → List Int → Bool → Option (Int)
  | 0, _, _, _ => none
  | k + 1, x0, x3, x50 => if x50 = true then (some 2) else ((fixed_Bounds.f k x3 0 x0).bind fun bt124 => (if bt124.2.2 = true then (some 0) else (some 11)))
end
def convolve_Check.f (k : Nat) (a0 : Int) (a1 : Int) (a2 : Int) (l3 : List Int) (a4 : Int) (a5 : Int) : Option (Int) := (convolve_kernel.f a1).bind fun t119 => (if t119 = true then ((convolve_kernel.f a2).bind fun t120 => (if t120 = true then (convolve_Check.j0 k a0 l3 a4 a5 ((l3.length : Int) != (wrap64 (a1 * a2)))) else (convolve_Check.j0 k a0 l3 a4 a5 true))) else (convolve_Check.j0 k a0 l3 a4 a5 true))
theorem convolve_Check.mono_l : ∀ k, (∀ y0 y1 y2 y3 y4, LeO (convolve_Check.j0 k y0 y1 y2 y3 y4) (convolve_Check.j0 (k + 1) y0 y1 y2 y3 y4)) ∧ (∀ y0 y1 y2 y3, LeO (convolve_Check.j1 k y0 y1 y2 y3) (convolve_Check.j1 (k + 1) y0 y1 y2 y3)) ∧ (∀ y0 y1 y2, LeO (convolve_Check.j2 k y0 y1 y2) (convolve_Check.j2 (k + 1) y0 y1 y2))
  | 0 => ⟨fun _ _ _ _ _ r h => by simp [convolve_Check.j0] at h, fun _ _ _ _ r h => by simp [convolve_Check.j1] at h, fun _ _ _ r h => by simp [convolve_Check.j2] at h⟩
  | k + 1 => by
    obtain ⟨ih0, ih1, ih2⟩ := convolve_Check.mono_l k
    refine ⟨?_, ?_, ?_⟩
    · intro y0 y1 y2 y3 y4
      unfold convolve_Check.j0
      repeat' first
      | (with_reducible exact ih0 _ _ _ _ _)
      | (with_reducible exact ih1 _ _ _ _)
      | (with_reducible exact ih2 _ _ _)
      | (with_reducible exact fixed_Bounds.mono _ _ _ _)
      | (with_reducible exact fixed_Weights.mono _ _)
      | (with_reducible exact LeO.refl _)
      | (with_reducible exact LeO.none _)
      | (with_reducible refine LeO.ite ?_ ?_)
      | (with_reducible refine LeO.bind ?_ (fun _ => ?_))
      | exact ih0 _ _ _ _ _
      | exact ih1 _ _ _ _
      | exact ih2 _ _ _
      | exact fixed_Bounds.mono _ _ _ _
      | exact fixed_Weights.mono _ _
      | exact LeO.none _
      | refine LeO.ite ?_ ?_
      | refine LeO.bind ?_ (fun _ => ?_)
    · intro y0 y1 y2 y3
      unfold convolve_Check.j1
      repeat' first
      | (with_reducible exact ih0 _ _ _ _ _)
      | (with_reducible exact ih1 _ _ _ _)
      | (with_reducible exact ih2 _ _ _)
      | (with_reducible exact fixed_Bounds.mono _ _ _ _)
      | (with_reducible exact fixed_Weights.mono _ _)
      | (with_reducible exact LeO.refl _)
      | (with_reducible exact LeO.none _)
      | (with_reducible refine LeO.ite ?_ ?_)
      | (with_reducible refine LeO.bind ?_ (fun _ => ?_))
      | exact ih0 _ _ _ _ _
      | exact ih1 _ _ _ _
      | exact ih2 _ _ _
      | exact fixed_Bounds.mono _ _ _ _
      | exact fixed_Weights.mono _ _
      | exact LeO.none _
      | refine LeO.ite ?_ ?_
      | refine LeO.bind ?_ (fun _ => ?_)
    · intro y0 y1 y2
      unfold convolve_Check.j2
      repeat' first
      | (with_reducible exact ih0 _ _ _ _ _)
      | (with_reducible exact ih1 _ _ _ _)
      | (with_reducible exact ih2 _ _ _)
      | (with_reducible exact fixed_Bounds.mono _ _ _ _)
      | (with_reducible exact fixed_Weights.mono _ _)
      | (with_reducible exact LeO.refl _)
      | (with_reducible exact LeO.none _)
      | (with_reducible refine LeO.ite ?_ ?_)
      | (with_reducible refine LeO.bind ?_ (fun _ => ?_))
      | exact ih0 _ _ _ _ _
      | exact ih1 _ _ _ _
      | exact ih2 _ _ _
      | exact fixed_Bounds.mono _ _ _ _
      | exact fixed_Weights.mono _ _
      | exact LeO.none _
      | refine LeO.ite ?_ ?_
      | refine LeO.bind ?_ (fun _ => ?_)
theorem convolve_Check.mono : ∀ a0 a1 a2 a3 a4 a5 k, LeO (convolve_Check.f k a0 a1 a2 a3 a4 a5) (convolve_Check.f (k + 1) a0 a1 a2 a3 a4 a5) := by
  intro a0 a1 a2 a3 a4 a5 k
  obtain ⟨ih0, ih1, ih2⟩ := convolve_Check.mono_l k
  unfold convolve_Check.f
  repeat' first
      | (with_reducible exact ih0 _ _ _ _ _)
      | (with_reducible exact ih1 _ _ _ _)
      | (with_reducible exact ih2 _ _ _)
      | (with_reducible exact fixed_Bounds.mono _ _ _ _)
      | (with_reducible exact fixed_Weights.mono _ _)
      | (with_reducible exact LeO.refl _)
      | (with_reducible exact LeO.none _)
      | (with_reducible refine LeO.ite ?_ ?_)
      | (with_reducible refine LeO.bind ?_ (fun _ => ?_))
      | exact ih0 _ _ _ _ _
      | exact ih1 _ _ _ _
      | exact ih2 _ _ _
      | exact fixed_Bounds.mono _ _ _ _
      | exact fixed_Weights.mono _ _
      | exact LeO.none _
      | refine LeO.ite ?_ ?_
      | refine LeO.bind ?_ (fun _ => ?_)
set_option maxHeartbeats 8000000 in
set_option maxRecDepth 100000 in
theorem convolve_Check.calls (k : Nat) (a0 : Int) (a1 : Int) (a2 : Int) (A3 : Option Addr) (c3 : Nat) (l3 : List Int) (a4 : Int) (a5 : Int) (r : Int) (w : World) (hr3 : Kd.C (Kd.int .i64) w A3 l3.length l3) (hc3 : l3.length ≤ c3) (h : convolve_Check.f k a0 a1 a2 l3 a4 a5 = some r) :
    Calls Try.prog 12 #[.int .i64 a0, .int .i64 a1, .int .i64 a2, .slice A3 l3.length c3, .int .i64 a4, .int .i64 a5] w fun e w' => e = .returned (.int .i64 r) ∧ Below w.heap.size w w' := by
  have HR3 := Aside0.mk hr3
  have HC3 := Aside0.mk hc3
  clear hr3 hc3
  have HB := Aside0.mk (Below.refl w.heap.size w)
  have H : ((convolve_kernel.f a1).bind fun t119 => (if t119 = true then ((convolve_kernel.f a2).bind fun t120 => (if t120 = true then (convolve_Check.j0 k a0 l3 a4 a5 ((l3.length : Int) != (wrap64 (a1 * a2)))) else (convolve_Check.j0 k a0 l3 a4 a5 true))) else (convolve_Check.j0 k a0 l3 a4 a5 true))) = some r := h
  clear h
  have HC7 := Aside0.mk H
  clear H
  go_enter Try.func12, Try.ntmps12
  go_upto_region 1 with (fail)
  go_cut [31] (fun v31 wc => ∃ (kq : Nat) (x31_6 : Bool), v31 = .bool x31_6 ∧ Aside0 (convolve_Check.j0 kq a0 l3 a4 a5 x31_6 = some r) ∧ Aside0 (kq ≤ k) ∧ Aside0 (Below w.heap.size w wc))
  case first =>
    have H := HC7.out
    clear HC7
    replace H := Option.bind_eq_some_iff.mp H
    obtain ⟨t119, A80, H⟩ := H
    replace H : (if t119 = true then ((convolve_kernel.f a2).bind fun t120 => (if t120 = true then (convolve_Check.j0 k a0 l3 a4 a5 ((l3.length : Int) != (wrap64 (a1 * a2)))) else (convolve_Check.j0 k a0 l3 a4 a5 true))) else (convolve_Check.j0 k a0 l3 a4 a5 true)) = some r := H
    have A8 := Aside0.mk A80
    clear A80
    by_cases c9 : t119 = true
    · subst c9
      have H1 : ((convolve_kernel.f a2).bind fun t120 => (if t120 = true then (convolve_Check.j0 k a0 l3 a4 a5 ((l3.length : Int) != (wrap64 (a1 * a2)))) else (convolve_Check.j0 k a0 l3 a4 a5 true))) = some r := by rw [if_pos rfl] at H; exact H
      clear H
      have H := H1
      clear H1
      replace H := Option.bind_eq_some_iff.mp H
      obtain ⟨t120, A100, H⟩ := H
      replace H : (if t120 = true then (convolve_Check.j0 k a0 l3 a4 a5 ((l3.length : Int) != (wrap64 (a1 * a2)))) else (convolve_Check.j0 k a0 l3 a4 a5 true)) = some r := H
      have A10 := Aside0.mk A100
      clear A100
      by_cases c11 : t120 = true
      · subst c11
        have H1 : (convolve_Check.j0 k a0 l3 a4 a5 ((l3.length : Int) != (wrap64 (a1 * a2)))) = some r := by rw [if_pos rfl] at H; exact H
        clear H
        have H := H1
        clear H1
        have H' := Aside0.mk H
        clear H
        go_wp2_with (first | ((with_reducible refine gate_callee (f := 26) rfl ?_); refine goesL_ (some 17) rfl rfl Try.func26 (by kernel_rfl) rfl #[.int .i64 a1] rfl q93_ ?_; (with_reducible refine (convolve_kernel.calls a1 true _ A8.out).mono ?_); rintro e w' ⟨rfl, ⟨nd, rfl⟩⟩; refine ⟨_, rfl, ?_⟩) | (go_at_call 26; (with_reducible refine (convolve_kernel.calls a2 true _ A10.out).mono ?_); rintro e w' ⟨rfl, ⟨nd, rfl⟩⟩))
        go_meet
        case rel => exact ⟨_, (((l3.length : Int) != (wrap64 (a1 * a2)))), q146_, H', ⟨by first | omega | exact Nat.le_refl _⟩, ⟨q96_⟩⟩
      · replace c11 := Bool.eq_false_iff.mpr c11
        subst c11
        have H1 : (convolve_Check.j0 k a0 l3 a4 a5 true) = some r := by rw [if_neg (show ¬ (false = true) by decide)] at H; exact H
        clear H
        have H := H1
        clear H1
        have H' := Aside0.mk H
        clear H
        go_wp2_with (first | ((with_reducible refine gate_callee (f := 26) rfl ?_); refine goesL_ (some 17) rfl rfl Try.func26 (by kernel_rfl) rfl #[.int .i64 a1] rfl q93_ ?_; (with_reducible refine (convolve_kernel.calls a1 true _ A8.out).mono ?_); rintro e w' ⟨rfl, ⟨nd, rfl⟩⟩; refine ⟨_, rfl, ?_⟩) | (go_at_call 26; (with_reducible refine (convolve_kernel.calls a2 false _ A10.out).mono ?_); rintro e w' ⟨rfl, ⟨nd, rfl⟩⟩))
        go_meet
        case rel => exact ⟨_, (true), q146_, H', ⟨by first | omega | exact Nat.le_refl _⟩, ⟨q96_⟩⟩
    · replace c9 := Bool.eq_false_iff.mpr c9
      subst c9
      have H1 : (convolve_Check.j0 k a0 l3 a4 a5 true) = some r := by rw [if_neg (show ¬ (false = true) by decide)] at H; exact H
      clear H
      have H := H1
      clear H1
      have H' := Aside0.mk H
      clear H
      go_wp2_with (first | ((with_reducible refine gate_callee (f := 26) rfl ?_); refine goesL_ (some 17) rfl rfl Try.func26 (by kernel_rfl) rfl #[.int .i64 a1] rfl q93_ ?_; (with_reducible refine (convolve_kernel.calls a1 false _ A8.out).mono ?_); rintro e w' ⟨rfl, ⟨nd, rfl⟩⟩; refine ⟨_, rfl, ?_⟩))
      go_meet
      case rel => exact ⟨_, (true), q146_, H', ⟨by first | omega | exact Nat.le_refl _⟩, ⟨q96_⟩⟩
  case rest =>
    clear HC7
    try clear c1
    try clear c2
    try clear p2
    try clear c3
    try clear p6
    try clear c9
    try clear c11
    obtain ⟨kq, x31_6, rfl, HA, HJ6, HB⟩ := hcut
    cases kq with
    | zero => exact absurd HA.out (by simp [convolve_Check.j0])
    | succ kj6 =>
      have H := HA.out
      clear HA
      simp only [convolve_Check.j0] at H
      by_cases c12 : x31_6 = true
      · subst c12
        have H1 : (some 9) = some r := by rw [if_pos rfl] at H; exact H
        clear H
        have H := H1
        clear H1
        obtain rfl := Option.some.inj H
        go_wp2
        go_ret
        exact ⟨q138_, q96_⟩
      · replace c12 := Bool.eq_false_iff.mpr c12
        subst c12
        have H1 : ((fixed_Weights.f kj6 l3).bind fun t121 => (if t121 = 0 then (if a4 < 0 then (convolve_Check.j1 kj6 a0 l3 a5 true) else (convolve_Check.j1 kj6 a0 l3 a5 (decide (a4 > 24)))) else (convolve_Check.j1 kj6 a0 l3 a5 true))) = some r := by rw [if_neg (show ¬ (false = true) by decide)] at H; exact H
        clear H
        have H := H1
        clear H1
        have HC13 := Aside0.mk H
        clear H
        go_upto_region 3 with (fail)
        go_cut [42] (fun v42 wc => ∃ (kq : Nat) (x42_12 : Bool), v42 = .bool x42_12 ∧ Aside0 (convolve_Check.j1 kq a0 l3 a5 x42_12 = some r) ∧ Aside0 (kq ≤ kj6) ∧ Aside0 (Below w.heap.size w wc))
        case first =>
          have H := HC13.out
          clear HC13
          replace H := Option.bind_eq_some_iff.mp H
          obtain ⟨t121, A140, H⟩ := H
          replace H : (if t121 = 0 then (if a4 < 0 then (convolve_Check.j1 kj6 a0 l3 a5 true) else (convolve_Check.j1 kj6 a0 l3 a5 (decide (a4 > 24)))) else (convolve_Check.j1 kj6 a0 l3 a5 true)) = some r := H
          have A14 := Aside0.mk A140
          clear A140
          by_cases c15 : t121 = 0
          · rw [if_pos c15] at H
            have c15b0 : (t121 == 0) = true := beq_iff_eq.mpr c15
            have c15b1 : (t121 != 0) = false := bne_eq_false_iff_eq.mpr c15
            clear c15
            (first | rw [c15b0] | (simp only [i64_w, i32_w]; rw [c15b0]) | skip)
            by_cases c16 : a4 < 0
            · rw [if_pos c16] at H
              have c16b0 : decide (a4 < 0) = true := decide_eq_true c16
              clear c16
              have H' := Aside0.mk H
              clear H
              go_wp2_with (first | ((with_reducible refine gate_callee (f := 27) rfl ?_); refine goesL_ (some 33) rfl rfl Try.func27 (by kernel_rfl) rfl #[.slice A3 l3.length c3] rfl q93_ ?_; (with_reducible refine (fixed_Weights.calls kj6 _ _ l3 t121 _ ?side1 ?side2 A14.out).mono ?_); (case side1 => repeat (first | exact (Kd.C_below HR3.out HB.out) | (with_reducible refine Kd.C_alloc ?_ _) | (with_reducible refine Kd.C_drewN ?_ _) | (with_reducible refine Kd.C_drew ?_))); (case side2 => exact HC3.out); rintro e w' ⟨rfl, ⟨nd, rfl⟩⟩; refine ⟨_, rfl, ?_⟩))
              go_meet
              case rel => exact ⟨_, (true), q146_, H', ⟨q142_⟩, ⟨q96_⟩⟩
            · rw [if_neg c16] at H
              have c16b0 : decide (a4 < 0) = false := decide_eq_false c16
              clear c16
              have H' := Aside0.mk H
              clear H
              go_wp2_with (first | ((with_reducible refine gate_callee (f := 27) rfl ?_); refine goesL_ (some 33) rfl rfl Try.func27 (by kernel_rfl) rfl #[.slice A3 l3.length c3] rfl q93_ ?_; (with_reducible refine (fixed_Weights.calls kj6 _ _ l3 t121 _ ?side1 ?side2 A14.out).mono ?_); (case side1 => repeat (first | exact (Kd.C_below HR3.out HB.out) | (with_reducible refine Kd.C_alloc ?_ _) | (with_reducible refine Kd.C_drewN ?_ _) | (with_reducible refine Kd.C_drew ?_))); (case side2 => exact HC3.out); rintro e w' ⟨rfl, ⟨nd, rfl⟩⟩; refine ⟨_, rfl, ?_⟩))
              go_meet
              case rel => exact ⟨_, (decide (a4 > 24)), q146_, H', ⟨q142_⟩, ⟨q96_⟩⟩
          · rw [if_neg c15] at H
            have c15b0 : (t121 == 0) = false := beq_eq_false_iff_ne.mpr c15
            have c15b1 : (t121 != 0) = true := bne_iff_ne.mpr c15
            (first | rw [c15b0] | (simp only [i64_w, i32_w]; rw [c15b0]) | skip)
            have H' := Aside0.mk H
            clear H
            go_wp2_with (first | ((with_reducible refine gate_callee (f := 27) rfl ?_); refine goesL_ (some 33) rfl rfl Try.func27 (by kernel_rfl) rfl #[.slice A3 l3.length c3] rfl q93_ ?_; (with_reducible refine (fixed_Weights.calls kj6 _ _ l3 t121 _ ?side1 ?side2 A14.out).mono ?_); (case side1 => repeat (first | exact (Kd.C_below HR3.out HB.out) | (with_reducible refine Kd.C_alloc ?_ _) | (with_reducible refine Kd.C_drewN ?_ _) | (with_reducible refine Kd.C_drew ?_))); (case side2 => exact HC3.out); rintro e w' ⟨rfl, ⟨nd, rfl⟩⟩; refine ⟨_, rfl, ?_⟩))
            go_meet
            case rel => exact ⟨_, (true), q146_, H', ⟨q142_⟩, ⟨q96_⟩⟩
        case rest =>
          clear HC13
          try clear c1
          try clear c2
          try clear p2
          try clear c3
          try clear p6
          try clear c9
          try clear c11
          try clear c12
          try clear c15
          try clear c15b0
          try clear c15b1
          try clear c16
          try clear c16b0
          try clear p2
          try clear p6
          obtain ⟨kq, x42_12, rfl, HA, HJ12, HB⟩ := hcut
          cases kq with
          | zero => exact absurd HA.out (by simp [convolve_Check.j1])
          | succ kj12 =>
            have H := HA.out
            clear HA
            simp only [convolve_Check.j1] at H
            by_cases c17 : x42_12 = true
            · subst c17
              have H1 : (some 10) = some r := by rw [if_pos rfl] at H; exact H
              clear H
              have H := H1
              clear H1
              obtain rfl := Option.some.inj H
              go_wp2
              go_ret
              exact ⟨q138_, q96_⟩
            · replace c17 := Bool.eq_false_iff.mpr c17
              subst c17
              have H1 : ((convolve_value.f a0).bind fun t122 => (if t122 = true then ((convolve_value.f a5).bind fun t123 => (convolve_Check.j2 kj12 a0 l3 (!t123))) else (convolve_Check.j2 kj12 a0 l3 true))) = some r := by rw [if_neg (show ¬ (false = true) by decide)] at H; exact H
              clear H
              have H := H1
              clear H1
              have HC18 := Aside0.mk H
              clear H
              go_upto_region 5 with (fail)
              go_cut [50] (fun v50 wc => ∃ (kq : Nat) (x50_17 : Bool), v50 = .bool x50_17 ∧ Aside0 (convolve_Check.j2 kq a0 l3 x50_17 = some r) ∧ Aside0 (kq ≤ kj12) ∧ Aside0 (Below w.heap.size w wc))
              case first =>
                have H := HC18.out
                clear HC18
                replace H := Option.bind_eq_some_iff.mp H
                obtain ⟨t122, A190, H⟩ := H
                replace H : (if t122 = true then ((convolve_value.f a5).bind fun t123 => (convolve_Check.j2 kj12 a0 l3 (!t123))) else (convolve_Check.j2 kj12 a0 l3 true)) = some r := H
                have A19 := Aside0.mk A190
                clear A190
                by_cases c20 : t122 = true
                · subst c20
                  have H1 : ((convolve_value.f a5).bind fun t123 => (convolve_Check.j2 kj12 a0 l3 (!t123))) = some r := by rw [if_pos rfl] at H; exact H
                  clear H
                  have H := H1
                  clear H1
                  replace H := Option.bind_eq_some_iff.mp H
                  obtain ⟨t123, A210, H⟩ := H
                  replace H : (convolve_Check.j2 kj12 a0 l3 (!t123)) = some r := H
                  have A21 := Aside0.mk A210
                  clear A210
                  have H' := Aside0.mk H
                  clear H
                  go_wp2_with (first | ((with_reducible refine gate_callee (f := 28) rfl ?_); refine goesL_ (some 44) rfl rfl Try.func28 (by kernel_rfl) rfl #[.int .i64 a0] rfl q93_ ?_; (with_reducible refine (convolve_value.calls a0 true _ A19.out).mono ?_); rintro e w' ⟨rfl, ⟨nd, rfl⟩⟩; refine ⟨_, rfl, ?_⟩) | (go_at_call 28; (with_reducible refine (convolve_value.calls a5 t123 _ A21.out).mono ?_); rintro e w' ⟨rfl, ⟨nd, rfl⟩⟩))
                  go_meet
                  case rel => exact ⟨_, (!t123), q146_, H', ⟨by have := HJ6.out; have := HJ12.out; first | omega | exact Nat.le_refl _⟩, ⟨q96_⟩⟩
                · replace c20 := Bool.eq_false_iff.mpr c20
                  subst c20
                  have H1 : (convolve_Check.j2 kj12 a0 l3 true) = some r := by rw [if_neg (show ¬ (false = true) by decide)] at H; exact H
                  clear H
                  have H := H1
                  clear H1
                  have H' := Aside0.mk H
                  clear H
                  go_wp2_with (first | ((with_reducible refine gate_callee (f := 28) rfl ?_); refine goesL_ (some 44) rfl rfl Try.func28 (by kernel_rfl) rfl #[.int .i64 a0] rfl q93_ ?_; (with_reducible refine (convolve_value.calls a0 false _ A19.out).mono ?_); rintro e w' ⟨rfl, ⟨nd, rfl⟩⟩; refine ⟨_, rfl, ?_⟩))
                  go_meet
                  case rel => exact ⟨_, (true), q146_, H', ⟨by have := HJ6.out; have := HJ12.out; first | omega | exact Nat.le_refl _⟩, ⟨q96_⟩⟩
              case rest =>
                clear HC18
                try clear c1
                try clear c2
                try clear p2
                try clear c3
                try clear p6
                try clear c9
                try clear c11
                try clear c12
                try clear c15
                try clear c15b0
                try clear c15b1
                try clear c16
                try clear c16b0
                try clear c17
                try clear c20
                try clear p2
                try clear p6
                obtain ⟨kq, x50_17, rfl, HA, HJ17, HB⟩ := hcut
                cases kq with
                | zero => exact absurd HA.out (by simp [convolve_Check.j2])
                | succ kj17 =>
                  have H := HA.out
                  clear HA
                  simp only [convolve_Check.j2] at H
                  by_cases c22 : x50_17 = true
                  · subst c22
                    have H1 : (some 2) = some r := by rw [if_pos rfl] at H; exact H
                    clear H
                    have H := H1
                    clear H1
                    obtain rfl := Option.some.inj H
                    go_wp2
                    go_ret
                    exact ⟨q138_, q96_⟩
                  · replace c22 := Bool.eq_false_iff.mpr c22
                    subst c22
                    have H1 : ((fixed_Bounds.f kj17 l3 0 a0).bind fun bt124 => (if bt124.2.2 = true then (some 0) else (some 11))) = some r := by rw [if_neg (show ¬ (false = true) by decide)] at H; exact H
                    clear H
                    have H := H1
                    clear H1
                    replace H := Option.bind_eq_some_iff.mp H
                    obtain ⟨⟨t124, t125, t126⟩, A230, H⟩ := H
                    replace H : (if t126 = true then (some 0) else (some 11)) = some r := H
                    have A23 := Aside0.mk A230
                    clear A230
                    by_cases c24 : t126 = true
                    · subst c24
                      have H1 : (some 0) = some r := by rw [if_pos rfl] at H; exact H
                      clear H
                      have H := H1
                      clear H1
                      obtain rfl := Option.some.inj H
                      go_wp2_with (first | ((with_reducible refine gate_callee (f := 29) rfl ?_); refine goesL_ (some 54) rfl rfl Try.func29 (by kernel_rfl) rfl #[.slice A3 l3.length c3, .int .i64 0, .int .i64 a0] rfl q93_ ?_; (with_reducible refine (fixed_Bounds.calls kj17 _ _ l3 0 a0 t124 t125 true _ ?side1 ?side2 A23.out).mono ?_); (case side1 => repeat (first | exact (Kd.C_below HR3.out HB.out) | (with_reducible refine Kd.C_alloc ?_ _) | (with_reducible refine Kd.C_drewN ?_ _) | (with_reducible refine Kd.C_drew ?_))); (case side2 => exact HC3.out); rintro e w25 ⟨rfl, hb⟩; refine ⟨_, rfl, ?_⟩; have n0_ := Aside0.mk (below_step q96_ hb); clear HB; have HB := n0_; clear n0_; (try clear hb); (try clear hb2); (try clear hk); (try clear hi)))
                      go_ret
                      exact ⟨q138_, q96_⟩
                    · replace c24 := Bool.eq_false_iff.mpr c24
                      subst c24
                      have H1 : (some 11) = some r := by rw [if_neg (show ¬ (false = true) by decide)] at H; exact H
                      clear H
                      have H := H1
                      clear H1
                      obtain rfl := Option.some.inj H
                      go_wp2_with (first | ((with_reducible refine gate_callee (f := 29) rfl ?_); refine goesL_ (some 54) rfl rfl Try.func29 (by kernel_rfl) rfl #[.slice A3 l3.length c3, .int .i64 0, .int .i64 a0] rfl q93_ ?_; (with_reducible refine (fixed_Bounds.calls kj17 _ _ l3 0 a0 t124 t125 false _ ?side1 ?side2 A23.out).mono ?_); (case side1 => repeat (first | exact (Kd.C_below HR3.out HB.out) | (with_reducible refine Kd.C_alloc ?_ _) | (with_reducible refine Kd.C_drewN ?_ _) | (with_reducible refine Kd.C_drew ?_))); (case side2 => exact HC3.out); rintro e w26 ⟨rfl, hb⟩; refine ⟨_, rfl, ?_⟩; have n0_ := Aside0.mk (below_step q96_ hb); clear HB; have HB := n0_; clear n0_; (try clear hb); (try clear hb2); (try clear hk); (try clear hi)))
                      go_ret
                      exact ⟨q138_, q96_⟩


def extent_Mul.f (a0 : Int) (a1 : Int) (a2 : Int) : Option (Int × Bool) := if a0 < 0 then (some (0, false)) else (if a1 < 0 then (some (0, false)) else (if a2 < 0 then (some (0, false)) else (if a0 = 0 then (some (wrap64 (a0 * a1), true)) else (if a1 > (wrap64 (Int.tdiv a2 a0)) then (some (0, false)) else (some (wrap64 (a0 * a1), true))))))
set_option maxHeartbeats 8000000 in
set_option maxRecDepth 100000 in
theorem extent_Mul.calls (a0 : Int) (a1 : Int) (a2 : Int) (r1 : Int) (r2 : Bool) (w : World) (h : extent_Mul.f a0 a1 a2 = some (r1, r2)) :
    Calls Try.prog 67 #[.int .i64 a0, .int .i64 a1, .int .i64 a2] w fun e w' => e = .returned (.tuple #[.int .i64 r1, .bool r2]) ∧ Drawn0 w w' := by
  have H : (if a0 < 0 then (some (0, false)) else (if a1 < 0 then (some (0, false)) else (if a2 < 0 then (some (0, false)) else (if a0 = 0 then (some (wrap64 (a0 * a1), true)) else (if a1 > (wrap64 (Int.tdiv a2 a0)) then (some (0, false)) else (some (wrap64 (a0 * a1), true))))))) = some (r1, r2) := h
  clear h
  by_cases c4 : a0 < 0
  · rw [if_pos c4] at H
    have c4b0 : decide (a0 < 0) = true := decide_eq_true c4
    clear c4
    simp only [Option.some.injEq, Prod.mk.injEq] at H
    obtain ⟨rfl, rfl⟩ := H
    go_enter Try.func67, Try.ntmps67
    go_wp2
    go_ret2
    exact ⟨q146_, q140_⟩
  · rw [if_neg c4] at H
    have c4b0 : decide (a0 < 0) = false := decide_eq_false c4
    clear c4
    by_cases c5 : a1 < 0
    · rw [if_pos c5] at H
      have c5b0 : decide (a1 < 0) = true := decide_eq_true c5
      clear c5
      simp only [Option.some.injEq, Prod.mk.injEq] at H
      obtain ⟨rfl, rfl⟩ := H
      go_enter Try.func67, Try.ntmps67
      go_wp2
      go_ret2
      exact ⟨q146_, q140_⟩
    · rw [if_neg c5] at H
      have c5b0 : decide (a1 < 0) = false := decide_eq_false c5
      clear c5
      by_cases c6 : a2 < 0
      · rw [if_pos c6] at H
        have c6b0 : decide (a2 < 0) = true := decide_eq_true c6
        clear c6
        simp only [Option.some.injEq, Prod.mk.injEq] at H
        obtain ⟨rfl, rfl⟩ := H
        go_enter Try.func67, Try.ntmps67
        go_wp2
        go_ret2
        exact ⟨q146_, q140_⟩
      · rw [if_neg c6] at H
        have c6b0 : decide (a2 < 0) = false := decide_eq_false c6
        clear c6
        by_cases c7 : a0 = 0
        · rw [if_pos c7] at H
          have c7b0 : (a0 == 0) = true := beq_iff_eq.mpr c7
          have c7b1 : (a0 != 0) = false := bne_eq_false_iff_eq.mpr c7
          clear c7
          simp only [Option.some.injEq, Prod.mk.injEq] at H
          obtain ⟨rfl, rfl⟩ := H
          go_enter Try.func67, Try.ntmps67
          go_wp2
          go_ret2
          exact ⟨q146_, q140_⟩
        · rw [if_neg c7] at H
          have c7b0 : (a0 == 0) = false := beq_eq_false_iff_ne.mpr c7
          have c7b1 : (a0 != 0) = true := bne_iff_ne.mpr c7
          by_cases c8 : a1 > (wrap64 (Int.tdiv a2 a0))
          · rw [if_pos c8] at H
            have c8b0 : decide ((wrap64 (Int.tdiv a2 a0)) < a1) = true := decide_eq_true c8
            clear c8
            simp only [Option.some.injEq, Prod.mk.injEq] at H
            obtain ⟨rfl, rfl⟩ := H
            go_enter Try.func67, Try.ntmps67
            go_wp2
            go_ret2
            exact ⟨q146_, q140_⟩
          · rw [if_neg c8] at H
            have c8b0 : decide ((wrap64 (Int.tdiv a2 a0)) < a1) = false := decide_eq_false c8
            clear c8
            simp only [Option.some.injEq, Prod.mk.injEq] at H
            obtain ⟨rfl, rfl⟩ := H
            go_enter Try.func67, Try.ntmps67
            go_wp2
            go_ret2
            exact ⟨q146_, q140_⟩


def plane_size.f (a0 : Int) (a1 : Int) (a2 : Int) : Option (Bool) := (extent_Mul.f a0 a1 4096).bind fun bt127 => (if bt127.2 = true then (if a0 ≥ 1 then (if a0 ≤ 128 then (if a1 ≥ 1 then (if a1 ≤ 128 then (if a2 ≥ 1 then (some (decide (a2 ≤ 4294967296))) else (some false)) else (some false)) else (some false)) else (some false)) else (some false)) else (some false))
set_option maxHeartbeats 8000000 in
set_option maxRecDepth 100000 in
theorem plane_size.calls (a0 : Int) (a1 : Int) (a2 : Int) (r : Bool) (w : World) (h : plane_size.f a0 a1 a2 = some r) :
    Calls Try.prog 59 #[.int .i64 a0, .int .i64 a1, .int .i64 a2] w fun e w' => e = .returned (.bool r) ∧ Drawn0 w w' := by
  have H : ((extent_Mul.f a0 a1 4096).bind fun bt127 => (if bt127.2 = true then (if a0 ≥ 1 then (if a0 ≤ 128 then (if a1 ≥ 1 then (if a1 ≤ 128 then (if a2 ≥ 1 then (some (decide (a2 ≤ 4294967296))) else (some false)) else (some false)) else (some false)) else (some false)) else (some false)) else (some false))) = some r := h
  clear h
  replace H := Option.bind_eq_some_iff.mp H
  obtain ⟨⟨t127, t128⟩, A40, H⟩ := H
  replace H : (if t128 = true then (if a0 ≥ 1 then (if a0 ≤ 128 then (if a1 ≥ 1 then (if a1 ≤ 128 then (if a2 ≥ 1 then (some (decide (a2 ≤ 4294967296))) else (some false)) else (some false)) else (some false)) else (some false)) else (some false)) else (some false)) = some r := H
  have A4 := Aside0.mk A40
  clear A40
  by_cases c5 : t128 = true
  · subst c5
    have H1 : (if a0 ≥ 1 then (if a0 ≤ 128 then (if a1 ≥ 1 then (if a1 ≤ 128 then (if a2 ≥ 1 then (some (decide (a2 ≤ 4294967296))) else (some false)) else (some false)) else (some false)) else (some false)) else (some false)) = some r := by rw [if_pos rfl] at H; exact H
    clear H
    have H := H1
    clear H1
    by_cases c6 : a0 ≥ 1
    · rw [if_pos c6] at H
      have c6b0 : decide (1 ≤ a0) = true := decide_eq_true c6
      clear c6
      by_cases c7 : a0 ≤ 128
      · rw [if_pos c7] at H
        have c7b0 : decide (a0 ≤ 128) = true := decide_eq_true c7
        clear c7
        by_cases c8 : a1 ≥ 1
        · rw [if_pos c8] at H
          have c8b0 : decide (1 ≤ a1) = true := decide_eq_true c8
          clear c8
          by_cases c9 : a1 ≤ 128
          · rw [if_pos c9] at H
            have c9b0 : decide (a1 ≤ 128) = true := decide_eq_true c9
            clear c9
            by_cases c10 : a2 ≥ 1
            · rw [if_pos c10] at H
              have c10b0 : decide (1 ≤ a2) = true := decide_eq_true c10
              clear c10
              obtain rfl := Option.some.inj H
              go_enter Try.func59, Try.ntmps59
              go_wp2_with (first | ((with_reducible refine gate_callee (f := 67) rfl ?_); refine goesL_ (some 12) rfl rfl Try.func67 (by kernel_rfl) rfl #[.int .i64 a0, .int .i64 a1, .int .i64 4096] rfl q93_ ?_; (with_reducible refine (extent_Mul.calls a0 a1 4096 t127 true _ A4.out).mono ?_); rintro e w' ⟨rfl, ⟨nd, rfl⟩⟩; refine ⟨_, rfl, ?_⟩))
              go_ret
              exact ⟨q146_, q140_⟩
            · rw [if_neg c10] at H
              have c10b0 : decide (1 ≤ a2) = false := decide_eq_false c10
              clear c10
              obtain rfl := Option.some.inj H
              go_enter Try.func59, Try.ntmps59
              go_wp2_with (first | ((with_reducible refine gate_callee (f := 67) rfl ?_); refine goesL_ (some 12) rfl rfl Try.func67 (by kernel_rfl) rfl #[.int .i64 a0, .int .i64 a1, .int .i64 4096] rfl q93_ ?_; (with_reducible refine (extent_Mul.calls a0 a1 4096 t127 true _ A4.out).mono ?_); rintro e w' ⟨rfl, ⟨nd, rfl⟩⟩; refine ⟨_, rfl, ?_⟩))
              go_ret
              exact ⟨q146_, q140_⟩
          · rw [if_neg c9] at H
            have c9b0 : decide (a1 ≤ 128) = false := decide_eq_false c9
            clear c9
            obtain rfl := Option.some.inj H
            go_enter Try.func59, Try.ntmps59
            go_wp2_with (first | ((with_reducible refine gate_callee (f := 67) rfl ?_); refine goesL_ (some 12) rfl rfl Try.func67 (by kernel_rfl) rfl #[.int .i64 a0, .int .i64 a1, .int .i64 4096] rfl q93_ ?_; (with_reducible refine (extent_Mul.calls a0 a1 4096 t127 true _ A4.out).mono ?_); rintro e w' ⟨rfl, ⟨nd, rfl⟩⟩; refine ⟨_, rfl, ?_⟩))
            go_ret
            exact ⟨q146_, q140_⟩
        · rw [if_neg c8] at H
          have c8b0 : decide (1 ≤ a1) = false := decide_eq_false c8
          clear c8
          obtain rfl := Option.some.inj H
          go_enter Try.func59, Try.ntmps59
          go_wp2_with (first | ((with_reducible refine gate_callee (f := 67) rfl ?_); refine goesL_ (some 12) rfl rfl Try.func67 (by kernel_rfl) rfl #[.int .i64 a0, .int .i64 a1, .int .i64 4096] rfl q93_ ?_; (with_reducible refine (extent_Mul.calls a0 a1 4096 t127 true _ A4.out).mono ?_); rintro e w' ⟨rfl, ⟨nd, rfl⟩⟩; refine ⟨_, rfl, ?_⟩))
          go_ret
          exact ⟨q146_, q140_⟩
      · rw [if_neg c7] at H
        have c7b0 : decide (a0 ≤ 128) = false := decide_eq_false c7
        clear c7
        obtain rfl := Option.some.inj H
        go_enter Try.func59, Try.ntmps59
        go_wp2_with (first | ((with_reducible refine gate_callee (f := 67) rfl ?_); refine goesL_ (some 12) rfl rfl Try.func67 (by kernel_rfl) rfl #[.int .i64 a0, .int .i64 a1, .int .i64 4096] rfl q93_ ?_; (with_reducible refine (extent_Mul.calls a0 a1 4096 t127 true _ A4.out).mono ?_); rintro e w' ⟨rfl, ⟨nd, rfl⟩⟩; refine ⟨_, rfl, ?_⟩))
        go_ret
        exact ⟨q146_, q140_⟩
    · rw [if_neg c6] at H
      have c6b0 : decide (1 ≤ a0) = false := decide_eq_false c6
      clear c6
      obtain rfl := Option.some.inj H
      go_enter Try.func59, Try.ntmps59
      go_wp2_with (first | ((with_reducible refine gate_callee (f := 67) rfl ?_); refine goesL_ (some 12) rfl rfl Try.func67 (by kernel_rfl) rfl #[.int .i64 a0, .int .i64 a1, .int .i64 4096] rfl q93_ ?_; (with_reducible refine (extent_Mul.calls a0 a1 4096 t127 true _ A4.out).mono ?_); rintro e w' ⟨rfl, ⟨nd, rfl⟩⟩; refine ⟨_, rfl, ?_⟩))
      go_ret
      exact ⟨q146_, q140_⟩
  · replace c5 := Bool.eq_false_iff.mpr c5
    subst c5
    have H1 : (some false) = some r := by rw [if_neg (show ¬ (false = true) by decide)] at H; exact H
    clear H
    have H := H1
    clear H1
    obtain rfl := Option.some.inj H
    go_enter Try.func59, Try.ntmps59
    go_wp2_with (first | ((with_reducible refine gate_callee (f := 67) rfl ?_); refine goesL_ (some 12) rfl rfl Try.func67 (by kernel_rfl) rfl #[.int .i64 a0, .int .i64 a1, .int .i64 4096] rfl q93_ ?_; (with_reducible refine (extent_Mul.calls a0 a1 4096 t127 false _ A4.out).mono ?_); rintro e w' ⟨rfl, ⟨nd, rfl⟩⟩; refine ⟨_, rfl, ?_⟩))
    go_ret
    exact ⟨q146_, q140_⟩

end Go.Proofs.Ythgmndomnibefaa.PConvolveMoves
