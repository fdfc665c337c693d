-- Written by a program of the session (wip/tools/myprint.py) over the kit's printer; checked by Lean.
import Derived.Test.YtagdbpbajkojoaaPBorderPeriodx0
import Derived.Test.YtagdbpbajkojoaaPBorderPeriodx1
namespace Go.Proofs.Ytagdbpbajkojoaa.PBorderPeriod
open Go.RowKit Go.Proofs.YtagdbpbajkojoaaW.PrintWords Go.Proofs.YtagdbpbajkojoaaW.PrintLast Go.Proofs.YtagdbpbajkojoaaW.PrintMore
attribute [local go_sem] max2_int min2_int max_two min_two max_three min_three max_four min_four   -- for this text's walks alone
set_option linter.unusedVariables false
set_option linter.unusedSimpArgs false

/-! ### tilefarmlaw3_sane: function 10 -/
def tilefarmlaw3_sane.f (k : Nat)  : Option (Bool) := (border_Index.f k (-1) 3 1).bind fun bt106 => ((border_Index.f k 3 3 1).bind fun bt108 => ((border_Range.f k (-2) 1 4 2).bind fun bt110 => ((border_Range.f k 4 9 4 3).bind fun bt113 => (if bt106.2 = true then (if bt106.1 = 0 then (if bt108.2 = true then (if bt108.1 = 2 then (if bt110.2.2 = true then (if bt110.1 = 0 then (if bt110.2.1 = 3 then (if bt113.2.2 = true then (some false) else ((border_Valid.f k 3 3 3).bind fun t116 => (some t116))) else (some false)) else (some false)) else (some false)) else (some false)) else (some false)) else (some false)) else (some false)))))
theorem tilefarmlaw3_sane.mono : ∀ k, LeO (tilefarmlaw3_sane.f k ) (tilefarmlaw3_sane.f (k + 1) ) := by
  intro  k
  unfold tilefarmlaw3_sane.f
  repeat' first
      | (with_reducible exact border_Index.mono _ _ _ _)
      | (with_reducible exact border_Range.mono _ _ _ _ _)
      | (with_reducible exact border_Valid.mono _ _ _ _)
      | (with_reducible exact LeO.refl _)
      | (with_reducible exact LeO.none _)
      | (with_reducible refine LeO.ite ?_ ?_)
      | (with_reducible refine LeO.bind ?_ (fun _ => ?_))
      | exact border_Index.mono _ _ _ _
      | exact border_Range.mono _ _ _ _ _
      | exact border_Valid.mono _ _ _ _
      | exact LeO.none _
      | refine LeO.ite ?_ ?_
      | refine LeO.bind ?_ (fun _ => ?_)
set_option maxHeartbeats 8000000 in
set_option maxRecDepth 100000 in
theorem tilefarmlaw3_sane.calls (k : Nat)  (r : Bool) (w : World) (h : tilefarmlaw3_sane.f k  = some r) :
    Calls Try.prog 10 #[] w fun e w' => e = .returned (.bool r) ∧ Below w.heap.size w w' := by
  have hu28 := Try.underlying28
  have HB := Aside0.mk (Below.refl w.heap.size w)
  have H : ((border_Index.f k (-1) 3 1).bind fun bt106 => ((border_Index.f k 3 3 1).bind fun bt108 => ((border_Range.f k (-2) 1 4 2).bind fun bt110 => ((border_Range.f k 4 9 4 3).bind fun bt113 => (if bt106.2 = true then (if bt106.1 = 0 then (if bt108.2 = true then (if bt108.1 = 2 then (if bt110.2.2 = true then (if bt110.1 = 0 then (if bt110.2.1 = 3 then (if bt113.2.2 = true then (some false) else ((border_Valid.f k 3 3 3).bind fun t116 => (some t116))) else (some false)) else (some false)) else (some false)) else (some false)) else (some false)) else (some false)) else (some false)))))) = some r := h
  clear h
  replace H := Option.bind_eq_some_iff.mp H
  obtain ⟨⟨t106, t107⟩, A10, H⟩ := H
  replace H : ((border_Index.f k 3 3 1).bind fun bt108 => ((border_Range.f k (-2) 1 4 2).bind fun bt110 => ((border_Range.f k 4 9 4 3).bind fun bt113 => (if t107 = true then (if t106 = 0 then (if bt108.2 = true then (if bt108.1 = 2 then (if bt110.2.2 = true then (if bt110.1 = 0 then (if bt110.2.1 = 3 then (if bt113.2.2 = true then (some false) else ((border_Valid.f k 3 3 3).bind fun t116 => (some t116))) else (some false)) else (some false)) else (some false)) else (some false)) else (some false)) else (some false)) else (some false))))) = some r := H
  have A1 := Aside0.mk A10
  clear A10
  replace H := Option.bind_eq_some_iff.mp H
  obtain ⟨⟨t108, t109⟩, A20, H⟩ := H
  replace H : ((border_Range.f k (-2) 1 4 2).bind fun bt110 => ((border_Range.f k 4 9 4 3).bind fun bt113 => (if t107 = true then (if t106 = 0 then (if t109 = true then (if t108 = 2 then (if bt110.2.2 = true then (if bt110.1 = 0 then (if bt110.2.1 = 3 then (if bt113.2.2 = true then (some false) else ((border_Valid.f k 3 3 3).bind fun t116 => (some t116))) else (some false)) else (some false)) else (some false)) else (some false)) else (some false)) else (some false)) else (some false)))) = some r := H
  have A2 := Aside0.mk A20
  clear A20
  replace H := Option.bind_eq_some_iff.mp H
  obtain ⟨⟨t110, t111, t112⟩, A30, H⟩ := H
  replace H : ((border_Range.f k 4 9 4 3).bind fun bt113 => (if t107 = true then (if t106 = 0 then (if t109 = true then (if t108 = 2 then (if t112 = true then (if t110 = 0 then (if t111 = 3 then (if bt113.2.2 = true then (some false) else ((border_Valid.f k 3 3 3).bind fun t116 => (some t116))) else (some false)) else (some false)) else (some false)) else (some false)) else (some false)) else (some false)) else (some false))) = some r := H
  have A3 := Aside0.mk A30
  clear A30
  replace H := Option.bind_eq_some_iff.mp H
  obtain ⟨⟨t113, t114, t115⟩, A40, H⟩ := H
  replace H : (if t107 = true then (if t106 = 0 then (if t109 = true then (if t108 = 2 then (if t112 = true then (if t110 = 0 then (if t111 = 3 then (if t115 = true then (some false) else ((border_Valid.f k 3 3 3).bind fun t116 => (some t116))) else (some false)) else (some false)) else (some false)) else (some false)) else (some false)) else (some false)) else (some false)) = some r := H
  have A4 := Aside0.mk A40
  clear A40
  by_cases c5 : t107 = true
  · subst c5
    have H1 : (if t106 = 0 then (if t109 = true then (if t108 = 2 then (if t112 = true then (if t110 = 0 then (if t111 = 3 then (if t115 = true then (some false) else ((border_Valid.f k 3 3 3).bind fun t116 => (some t116))) else (some false)) else (some false)) else (some false)) else (some false)) else (some false)) else (some false)) = some r := by rw [if_pos rfl] at H; exact H
    clear H
    have H := H1
    clear H1
    by_cases c6 : t106 = 0
    · rw [if_pos c6] at H
      have c6b0 : (t106 == 0) = true := beq_iff_eq.mpr c6
      have c6b1 : (t106 != 0) = false := bne_eq_false_iff_eq.mpr c6
      clear c6
      by_cases c7 : t109 = true
      · subst c7
        have H1 : (if t108 = 2 then (if t112 = true then (if t110 = 0 then (if t111 = 3 then (if t115 = true then (some false) else ((border_Valid.f k 3 3 3).bind fun t116 => (some t116))) else (some false)) else (some false)) else (some false)) else (some false)) = some r := by rw [if_pos rfl] at H; exact H
        clear H
        have H := H1
        clear H1
        by_cases c8 : t108 = 2
        · rw [if_pos c8] at H
          have c8b0 : (t108 == 2) = true := beq_iff_eq.mpr c8
          have c8b1 : (t108 != 2) = false := bne_eq_false_iff_eq.mpr c8
          clear c8
          by_cases c9 : t112 = true
          · subst c9
            have H1 : (if t110 = 0 then (if t111 = 3 then (if t115 = true then (some false) else ((border_Valid.f k 3 3 3).bind fun t116 => (some t116))) else (some false)) else (some false)) = some r := by rw [if_pos rfl] at H; exact H
            clear H
            have H := H1
            clear H1
            by_cases c10 : t110 = 0
            · rw [if_pos c10] at H
              have c10b0 : (t110 == 0) = true := beq_iff_eq.mpr c10
              have c10b1 : (t110 != 0) = false := bne_eq_false_iff_eq.mpr c10
              clear c10
              by_cases c11 : t111 = 3
              · rw [if_pos c11] at H
                have c11b0 : (t111 == 3) = true := beq_iff_eq.mpr c11
                have c11b1 : (t111 != 3) = false := bne_eq_false_iff_eq.mpr c11
                clear c11
                by_cases c12 : t115 = true
                · subst c12
                  have H1 : (some false) = some r := by rw [if_pos rfl] at H; exact H
                  clear H
                  have H := H1
                  clear H1
                  obtain rfl := Option.some.inj H
                  go_enter Try.func10, Try.ntmps10
                  go_wp2_with (first | ((with_reducible refine gate_callee (f := 9) rfl ?_); refine goesL_ (some 12) rfl rfl Try.func9 (by kernel_rfl) rfl #[.int .i64 (-1), .int .i64 3, .int .i64 1] rfl (by (try simp only [List.map_toArray, List.map_cons, List.map_nil]); first | done | rfl | (simp only [List.length_drop, List.length_take]; rfl)) ?_; (with_reducible refine (border_Index.calls k (-1) 3 1 t106 true _ A1.out).mono ?_); rintro e w13 ⟨rfl, hb⟩; refine ⟨_, rfl, ?_⟩; have n0_ := Aside0.mk (below_step (by repeat (first | (with_reducible first | exact HB.out | apply below_alloc | apply pw_below_drewN | apply below_drew1) | exact HB.out)) hb); clear HB; have HB := n0_; clear n0_; (try clear hb); (try clear hb2); (try clear hk); (try clear hi)) | ((with_reducible refine gate_callee (f := 9) rfl ?_); refine goesL_ (some 16) rfl rfl Try.func9 (by kernel_rfl) rfl #[.int .i64 3, .int .i64 3, .int .i64 1] rfl (by (try simp only [List.map_toArray, List.map_cons, List.map_nil]); first | done | rfl | (simp only [List.length_drop, List.length_take]; rfl)) ?_; (with_reducible refine (border_Index.calls k 3 3 1 t108 true _ A2.out).mono ?_); rintro e w14 ⟨rfl, hb⟩; refine ⟨_, rfl, ?_⟩; have n0_ := Aside0.mk (below_step (by repeat (first | (with_reducible first | exact HB.out | apply below_alloc | apply pw_below_drewN | apply below_drew1) | exact HB.out)) hb); clear HB; have HB := n0_; clear n0_; (try clear hb); (try clear hb2); (try clear hk); (try clear hi)) | ((with_reducible refine gate_callee (f := 17) rfl ?_); refine goesL_ (some 20) rfl rfl Try.func17 (by kernel_rfl) rfl #[.int .i64 (-2), .int .i64 1, .int .i64 4, .int .i64 2] rfl (by (try simp only [List.map_toArray, List.map_cons, List.map_nil]); first | done | rfl | (simp only [List.length_drop, List.length_take]; rfl)) ?_; (with_reducible refine (border_Range.calls k (-2) 1 4 2 t110 t111 true _ A3.out).mono ?_); rintro e w15 ⟨rfl, hb⟩; refine ⟨_, rfl, ?_⟩; have n0_ := Aside0.mk (below_step (by repeat (first | (with_reducible first | exact HB.out | apply below_alloc | apply pw_below_drewN | apply below_drew1) | exact HB.out)) hb); clear HB; have HB := n0_; clear n0_; (try clear hb); (try clear hb2); (try clear hk); (try clear hi)) | ((with_reducible refine gate_callee (f := 17) rfl ?_); refine goesL_ (some 25) rfl rfl Try.func17 (by kernel_rfl) rfl #[.int .i64 4, .int .i64 9, .int .i64 4, .int .i64 3] rfl (by (try simp only [List.map_toArray, List.map_cons, List.map_nil]); first | done | rfl | (simp only [List.length_drop, List.length_take]; rfl)) ?_; (with_reducible refine (border_Range.calls k 4 9 4 3 t113 t114 true _ A4.out).mono ?_); rintro e w16 ⟨rfl, hb⟩; refine ⟨_, rfl, ?_⟩; have n0_ := Aside0.mk (below_step (by repeat (first | (with_reducible first | exact HB.out | apply below_alloc | apply pw_below_drewN | apply below_drew1) | exact HB.out)) hb); clear HB; have HB := n0_; clear n0_; (try clear hb); (try clear hb2); (try clear hk); (try clear hi)))
                  go_ret
                  exact ⟨by first | rfl | (simp [errW_none, errW_some] <;> rfl) | (simp [*, errW_none, errW_some] <;> rfl), by repeat (first | (with_reducible first | exact HB.out | apply below_alloc | apply pw_below_drewN | apply below_drew1) | exact HB.out)⟩
                · replace c12 := Bool.eq_false_iff.mpr c12
                  subst c12
                  have H1 : ((border_Valid.f k 3 3 3).bind fun t116 => (some t116)) = some r := by rw [if_neg (show ¬ (false = true) by decide)] at H; exact H
                  clear H
                  have H := H1
                  clear H1
                  replace H := Option.bind_eq_some_iff.mp H
                  obtain ⟨t116, A170, H⟩ := H
                  replace H : (some t116) = some r := H
                  have A17 := Aside0.mk A170
                  clear A170
                  obtain rfl := Option.some.inj H
                  go_enter Try.func10, Try.ntmps10
                  go_wp2_with (first | ((with_reducible refine gate_callee (f := 9) rfl ?_); refine goesL_ (some 12) rfl rfl Try.func9 (by kernel_rfl) rfl #[.int .i64 (-1), .int .i64 3, .int .i64 1] rfl (by (try simp only [List.map_toArray, List.map_cons, List.map_nil]); first | done | rfl | (simp only [List.length_drop, List.length_take]; rfl)) ?_; (with_reducible refine (border_Index.calls k (-1) 3 1 t106 true _ A1.out).mono ?_); rintro e w18 ⟨rfl, hb⟩; refine ⟨_, rfl, ?_⟩; have n0_ := Aside0.mk (below_step (by repeat (first | (with_reducible first | exact HB.out | apply below_alloc | apply pw_below_drewN | apply below_drew1) | exact HB.out)) hb); clear HB; have HB := n0_; clear n0_; (try clear hb); (try clear hb2); (try clear hk); (try clear hi)) | ((with_reducible refine gate_callee (f := 9) rfl ?_); refine goesL_ (some 16) rfl rfl Try.func9 (by kernel_rfl) rfl #[.int .i64 3, .int .i64 3, .int .i64 1] rfl (by (try simp only [List.map_toArray, List.map_cons, List.map_nil]); first | done | rfl | (simp only [List.length_drop, List.length_take]; rfl)) ?_; (with_reducible refine (border_Index.calls k 3 3 1 t108 true _ A2.out).mono ?_); rintro e w19 ⟨rfl, hb⟩; refine ⟨_, rfl, ?_⟩; have n0_ := Aside0.mk (below_step (by repeat (first | (with_reducible first | exact HB.out | apply below_alloc | apply pw_below_drewN | apply below_drew1) | exact HB.out)) hb); clear HB; have HB := n0_; clear n0_; (try clear hb); (try clear hb2); (try clear hk); (try clear hi)) | ((with_reducible refine gate_callee (f := 17) rfl ?_); refine goesL_ (some 20) rfl rfl Try.func17 (by kernel_rfl) rfl #[.int .i64 (-2), .int .i64 1, .int .i64 4, .int .i64 2] rfl (by (try simp only [List.map_toArray, List.map_cons, List.map_nil]); first | done | rfl | (simp only [List.length_drop, List.length_take]; rfl)) ?_; (with_reducible refine (border_Range.calls k (-2) 1 4 2 t110 t111 true _ A3.out).mono ?_); rintro e w20 ⟨rfl, hb⟩; refine ⟨_, rfl, ?_⟩; have n0_ := Aside0.mk (below_step (by repeat (first | (with_reducible first | exact HB.out | apply below_alloc | apply pw_below_drewN | apply below_drew1) | exact HB.out)) hb); clear HB; have HB := n0_; clear n0_; (try clear hb); (try clear hb2); (try clear hk); (try clear hi)) | ((with_reducible refine gate_callee (f := 17) rfl ?_); refine goesL_ (some 25) rfl rfl Try.func17 (by kernel_rfl) rfl #[.int .i64 4, .int .i64 9, .int .i64 4, .int .i64 3] rfl (by (try simp only [List.map_toArray, List.map_cons, List.map_nil]); first | done | rfl | (simp only [List.length_drop, List.length_take]; rfl)) ?_; (with_reducible refine (border_Range.calls k 4 9 4 3 t113 t114 false _ A4.out).mono ?_); rintro e w21 ⟨rfl, hb⟩; refine ⟨_, rfl, ?_⟩; have n0_ := Aside0.mk (below_step (by repeat (first | (with_reducible first | exact HB.out | apply below_alloc | apply pw_below_drewN | apply below_drew1) | exact HB.out)) hb); clear HB; have HB := n0_; clear n0_; (try clear hb); (try clear hb2); (try clear hk); (try clear hi)) | (go_at_call 12; (with_reducible refine (border_Valid.calls k 3 3 3 t116 _ A17.out).mono ?_); rintro e w22 ⟨rfl, hb⟩; have n0_ := Aside0.mk (below_step (by repeat (first | (with_reducible first | exact HB.out | apply below_alloc | apply pw_below_drewN | apply below_drew1) | exact HB.out)) hb); clear HB; have HB := n0_; clear n0_; (try clear hb); (try clear hb2); (try clear hk); (try clear hi)))
                  go_ret
                  exact ⟨by first | rfl | (simp [errW_none, errW_some] <;> rfl) | (simp [*, errW_none, errW_some] <;> rfl), by repeat (first | (with_reducible first | exact HB.out | apply below_alloc | apply pw_below_drewN | apply below_drew1) | exact HB.out)⟩
              · rw [if_neg c11] at H
                have c11b0 : (t111 == 3) = false := beq_eq_false_iff_ne.mpr c11
                have c11b1 : (t111 != 3) = true := bne_iff_ne.mpr c11
                obtain rfl := Option.some.inj H
                go_enter Try.func10, Try.ntmps10
                go_wp2_with (first | ((with_reducible refine gate_callee (f := 9) rfl ?_); refine goesL_ (some 12) rfl rfl Try.func9 (by kernel_rfl) rfl #[.int .i64 (-1), .int .i64 3, .int .i64 1] rfl (by (try simp only [List.map_toArray, List.map_cons, List.map_nil]); first | done | rfl | (simp only [List.length_drop, List.length_take]; rfl)) ?_; (with_reducible refine (border_Index.calls k (-1) 3 1 t106 true _ A1.out).mono ?_); rintro e w23 ⟨rfl, hb⟩; refine ⟨_, rfl, ?_⟩; have n0_ := Aside0.mk (below_step (by repeat (first | (with_reducible first | exact HB.out | apply below_alloc | apply pw_below_drewN | apply below_drew1) | exact HB.out)) hb); clear HB; have HB := n0_; clear n0_; (try clear hb); (try clear hb2); (try clear hk); (try clear hi)) | ((with_reducible refine gate_callee (f := 9) rfl ?_); refine goesL_ (some 16) rfl rfl Try.func9 (by kernel_rfl) rfl #[.int .i64 3, .int .i64 3, .int .i64 1] rfl (by (try simp only [List.map_toArray, List.map_cons, List.map_nil]); first | done | rfl | (simp only [List.length_drop, List.length_take]; rfl)) ?_; (with_reducible refine (border_Index.calls k 3 3 1 t108 true _ A2.out).mono ?_); rintro e w24 ⟨rfl, hb⟩; refine ⟨_, rfl, ?_⟩; have n0_ := Aside0.mk (below_step (by repeat (first | (with_reducible first | exact HB.out | apply below_alloc | apply pw_below_drewN | apply below_drew1) | exact HB.out)) hb); clear HB; have HB := n0_; clear n0_; (try clear hb); (try clear hb2); (try clear hk); (try clear hi)) | ((with_reducible refine gate_callee (f := 17) rfl ?_); refine goesL_ (some 20) rfl rfl Try.func17 (by kernel_rfl) rfl #[.int .i64 (-2), .int .i64 1, .int .i64 4, .int .i64 2] rfl (by (try simp only [List.map_toArray, List.map_cons, List.map_nil]); first | done | rfl | (simp only [List.length_drop, List.length_take]; rfl)) ?_; (with_reducible refine (border_Range.calls k (-2) 1 4 2 t110 t111 true _ A3.out).mono ?_); rintro e w25 ⟨rfl, hb⟩; refine ⟨_, rfl, ?_⟩; have n0_ := Aside0.mk (below_step (by repeat (first | (with_reducible first | exact HB.out | apply below_alloc | apply pw_below_drewN | apply below_drew1) | exact HB.out)) hb); clear HB; have HB := n0_; clear n0_; (try clear hb); (try clear hb2); (try clear hk); (try clear hi)) | ((with_reducible refine gate_callee (f := 17) rfl ?_); refine goesL_ (some 25) rfl rfl Try.func17 (by kernel_rfl) rfl #[.int .i64 4, .int .i64 9, .int .i64 4, .int .i64 3] rfl (by (try simp only [List.map_toArray, List.map_cons, List.map_nil]); first | done | rfl | (simp only [List.length_drop, List.length_take]; rfl)) ?_; (with_reducible refine (border_Range.calls k 4 9 4 3 t113 t114 t115 _ A4.out).mono ?_); rintro e w26 ⟨rfl, hb⟩; refine ⟨_, rfl, ?_⟩; have n0_ := Aside0.mk (below_step (by repeat (first | (with_reducible first | exact HB.out | apply below_alloc | apply pw_below_drewN | apply below_drew1) | exact HB.out)) hb); clear HB; have HB := n0_; clear n0_; (try clear hb); (try clear hb2); (try clear hk); (try clear hi)))
                go_ret
                exact ⟨by first | rfl | (simp [errW_none, errW_some] <;> rfl) | (simp [*, errW_none, errW_some] <;> rfl), by repeat (first | (with_reducible first | exact HB.out | apply below_alloc | apply pw_below_drewN | apply below_drew1) | exact HB.out)⟩
            · rw [if_neg c10] at H
              have c10b0 : (t110 == 0) = false := beq_eq_false_iff_ne.mpr c10
              have c10b1 : (t110 != 0) = true := bne_iff_ne.mpr c10
              obtain rfl := Option.some.inj H
              go_enter Try.func10, Try.ntmps10
              go_wp2_with (first | ((with_reducible refine gate_callee (f := 9) rfl ?_); refine goesL_ (some 12) rfl rfl Try.func9 (by kernel_rfl) rfl #[.int .i64 (-1), .int .i64 3, .int .i64 1] rfl (by (try simp only [List.map_toArray, List.map_cons, List.map_nil]); first | done | rfl | (simp only [List.length_drop, List.length_take]; rfl)) ?_; (with_reducible refine (border_Index.calls k (-1) 3 1 t106 true _ A1.out).mono ?_); rintro e w27 ⟨rfl, hb⟩; refine ⟨_, rfl, ?_⟩; have n0_ := Aside0.mk (below_step (by repeat (first | (with_reducible first | exact HB.out | apply below_alloc | apply pw_below_drewN | apply below_drew1) | exact HB.out)) hb); clear HB; have HB := n0_; clear n0_; (try clear hb); (try clear hb2); (try clear hk); (try clear hi)) | ((with_reducible refine gate_callee (f := 9) rfl ?_); refine goesL_ (some 16) rfl rfl Try.func9 (by kernel_rfl) rfl #[.int .i64 3, .int .i64 3, .int .i64 1] rfl (by (try simp only [List.map_toArray, List.map_cons, List.map_nil]); first | done | rfl | (simp only [List.length_drop, List.length_take]; rfl)) ?_; (with_reducible refine (border_Index.calls k 3 3 1 t108 true _ A2.out).mono ?_); rintro e w28 ⟨rfl, hb⟩; refine ⟨_, rfl, ?_⟩; have n0_ := Aside0.mk (below_step (by repeat (first | (with_reducible first | exact HB.out | apply below_alloc | apply pw_below_drewN | apply below_drew1) | exact HB.out)) hb); clear HB; have HB := n0_; clear n0_; (try clear hb); (try clear hb2); (try clear hk); (try clear hi)) | ((with_reducible refine gate_callee (f := 17) rfl ?_); refine goesL_ (some 20) rfl rfl Try.func17 (by kernel_rfl) rfl #[.int .i64 (-2), .int .i64 1, .int .i64 4, .int .i64 2] rfl (by (try simp only [List.map_toArray, List.map_cons, List.map_nil]); first | done | rfl | (simp only [List.length_drop, List.length_take]; rfl)) ?_; (with_reducible refine (border_Range.calls k (-2) 1 4 2 t110 t111 true _ A3.out).mono ?_); rintro e w29 ⟨rfl, hb⟩; refine ⟨_, rfl, ?_⟩; have n0_ := Aside0.mk (below_step (by repeat (first | (with_reducible first | exact HB.out | apply below_alloc | apply pw_below_drewN | apply below_drew1) | exact HB.out)) hb); clear HB; have HB := n0_; clear n0_; (try clear hb); (try clear hb2); (try clear hk); (try clear hi)) | ((with_reducible refine gate_callee (f := 17) rfl ?_); refine goesL_ (some 25) rfl rfl Try.func17 (by kernel_rfl) rfl #[.int .i64 4, .int .i64 9, .int .i64 4, .int .i64 3] rfl (by (try simp only [List.map_toArray, List.map_cons, List.map_nil]); first | done | rfl | (simp only [List.length_drop, List.length_take]; rfl)) ?_; (with_reducible refine (border_Range.calls k 4 9 4 3 t113 t114 t115 _ A4.out).mono ?_); rintro e w30 ⟨rfl, hb⟩; refine ⟨_, rfl, ?_⟩; have n0_ := Aside0.mk (below_step (by repeat (first | (with_reducible first | exact HB.out | apply below_alloc | apply pw_below_drewN | apply below_drew1) | exact HB.out)) hb); clear HB; have HB := n0_; clear n0_; (try clear hb); (try clear hb2); (try clear hk); (try clear hi)))
              go_ret
              exact ⟨by first | rfl | (simp [errW_none, errW_some] <;> rfl) | (simp [*, errW_none, errW_some] <;> rfl), by repeat (first | (with_reducible first | exact HB.out | apply below_alloc | apply pw_below_drewN | apply below_drew1) | exact HB.out)⟩
          · replace c9 := Bool.eq_false_iff.mpr c9
            subst c9
            have H1 : (some false) = some r := by rw [if_neg (show ¬ (false = true) by decide)] at H; exact H
            clear H
            have H := H1
            clear H1
            obtain rfl := Option.some.inj H
            go_enter Try.func10, Try.ntmps10
            go_wp2_with (first | ((with_reducible refine gate_callee (f := 9) rfl ?_); refine goesL_ (some 12) rfl rfl Try.func9 (by kernel_rfl) rfl #[.int .i64 (-1), .int .i64 3, .int .i64 1] rfl (by (try simp only [List.map_toArray, List.map_cons, List.map_nil]); first | done | rfl | (simp only [List.length_drop, List.length_take]; rfl)) ?_; (with_reducible refine (border_Index.calls k (-1) 3 1 t106 true _ A1.out).mono ?_); rintro e w31 ⟨rfl, hb⟩; refine ⟨_, rfl, ?_⟩; have n0_ := Aside0.mk (below_step (by repeat (first | (with_reducible first | exact HB.out | apply below_alloc | apply pw_below_drewN | apply below_drew1) | exact HB.out)) hb); clear HB; have HB := n0_; clear n0_; (try clear hb); (try clear hb2); (try clear hk); (try clear hi)) | ((with_reducible refine gate_callee (f := 9) rfl ?_); refine goesL_ (some 16) rfl rfl Try.func9 (by kernel_rfl) rfl #[.int .i64 3, .int .i64 3, .int .i64 1] rfl (by (try simp only [List.map_toArray, List.map_cons, List.map_nil]); first | done | rfl | (simp only [List.length_drop, List.length_take]; rfl)) ?_; (with_reducible refine (border_Index.calls k 3 3 1 t108 true _ A2.out).mono ?_); rintro e w32 ⟨rfl, hb⟩; refine ⟨_, rfl, ?_⟩; have n0_ := Aside0.mk (below_step (by repeat (first | (with_reducible first | exact HB.out | apply below_alloc | apply pw_below_drewN | apply below_drew1) | exact HB.out)) hb); clear HB; have HB := n0_; clear n0_; (try clear hb); (try clear hb2); (try clear hk); (try clear hi)) | ((with_reducible refine gate_callee (f := 17) rfl ?_); refine goesL_ (some 20) rfl rfl Try.func17 (by kernel_rfl) rfl #[.int .i64 (-2), .int .i64 1, .int .i64 4, .int .i64 2] rfl (by (try simp only [List.map_toArray, List.map_cons, List.map_nil]); first | done | rfl | (simp only [List.length_drop, List.length_take]; rfl)) ?_; (with_reducible refine (border_Range.calls k (-2) 1 4 2 t110 t111 false _ A3.out).mono ?_); rintro e w33 ⟨rfl, hb⟩; refine ⟨_, rfl, ?_⟩; have n0_ := Aside0.mk (below_step (by repeat (first | (with_reducible first | exact HB.out | apply below_alloc | apply pw_below_drewN | apply below_drew1) | exact HB.out)) hb); clear HB; have HB := n0_; clear n0_; (try clear hb); (try clear hb2); (try clear hk); (try clear hi)) | ((with_reducible refine gate_callee (f := 17) rfl ?_); refine goesL_ (some 25) rfl rfl Try.func17 (by kernel_rfl) rfl #[.int .i64 4, .int .i64 9, .int .i64 4, .int .i64 3] rfl (by (try simp only [List.map_toArray, List.map_cons, List.map_nil]); first | done | rfl | (simp only [List.length_drop, List.length_take]; rfl)) ?_; (with_reducible refine (border_Range.calls k 4 9 4 3 t113 t114 t115 _ A4.out).mono ?_); rintro e w34 ⟨rfl, hb⟩; refine ⟨_, rfl, ?_⟩; have n0_ := Aside0.mk (below_step (by repeat (first | (with_reducible first | exact HB.out | apply below_alloc | apply pw_below_drewN | apply below_drew1) | exact HB.out)) hb); clear HB; have HB := n0_; clear n0_; (try clear hb); (try clear hb2); (try clear hk); (try clear hi)))
            go_ret
            exact ⟨by first | rfl | (simp [errW_none, errW_some] <;> rfl) | (simp [*, errW_none, errW_some] <;> rfl), by repeat (first | (with_reducible first | exact HB.out | apply below_alloc | apply pw_below_drewN | apply below_drew1) | exact HB.out)⟩
        · rw [if_neg c8] at H
          have c8b0 : (t108 == 2) = false := beq_eq_false_iff_ne.mpr c8
          have c8b1 : (t108 != 2) = true := bne_iff_ne.mpr c8
          obtain rfl := Option.some.inj H
          go_enter Try.func10, Try.ntmps10
          go_wp2_with (first | ((with_reducible refine gate_callee (f := 9) rfl ?_); refine goesL_ (some 12) rfl rfl Try.func9 (by kernel_rfl) rfl #[.int .i64 (-1), .int .i64 3, .int .i64 1] rfl (by (try simp only [List.map_toArray, List.map_cons, List.map_nil]); first | done | rfl | (simp only [List.length_drop, List.length_take]; rfl)) ?_; (with_reducible refine (border_Index.calls k (-1) 3 1 t106 true _ A1.out).mono ?_); rintro e w35 ⟨rfl, hb⟩; refine ⟨_, rfl, ?_⟩; have n0_ := Aside0.mk (below_step (by repeat (first | (with_reducible first | exact HB.out | apply below_alloc | apply pw_below_drewN | apply below_drew1) | exact HB.out)) hb); clear HB; have HB := n0_; clear n0_; (try clear hb); (try clear hb2); (try clear hk); (try clear hi)) | ((with_reducible refine gate_callee (f := 9) rfl ?_); refine goesL_ (some 16) rfl rfl Try.func9 (by kernel_rfl) rfl #[.int .i64 3, .int .i64 3, .int .i64 1] rfl (by (try simp only [List.map_toArray, List.map_cons, List.map_nil]); first | done | rfl | (simp only [List.length_drop, List.length_take]; rfl)) ?_; (with_reducible refine (border_Index.calls k 3 3 1 t108 true _ A2.out).mono ?_); rintro e w36 ⟨rfl, hb⟩; refine ⟨_, rfl, ?_⟩; have n0_ := Aside0.mk (below_step (by repeat (first | (with_reducible first | exact HB.out | apply below_alloc | apply pw_below_drewN | apply below_drew1) | exact HB.out)) hb); clear HB; have HB := n0_; clear n0_; (try clear hb); (try clear hb2); (try clear hk); (try clear hi)) | ((with_reducible refine gate_callee (f := 17) rfl ?_); refine goesL_ (some 20) rfl rfl Try.func17 (by kernel_rfl) rfl #[.int .i64 (-2), .int .i64 1, .int .i64 4, .int .i64 2] rfl (by (try simp only [List.map_toArray, List.map_cons, List.map_nil]); first | done | rfl | (simp only [List.length_drop, List.length_take]; rfl)) ?_; (with_reducible refine (border_Range.calls k (-2) 1 4 2 t110 t111 t112 _ A3.out).mono ?_); rintro e w37 ⟨rfl, hb⟩; refine ⟨_, rfl, ?_⟩; have n0_ := Aside0.mk (below_step (by repeat (first | (with_reducible first | exact HB.out | apply below_alloc | apply pw_below_drewN | apply below_drew1) | exact HB.out)) hb); clear HB; have HB := n0_; clear n0_; (try clear hb); (try clear hb2); (try clear hk); (try clear hi)) | ((with_reducible refine gate_callee (f := 17) rfl ?_); refine goesL_ (some 25) rfl rfl Try.func17 (by kernel_rfl) rfl #[.int .i64 4, .int .i64 9, .int .i64 4, .int .i64 3] rfl (by (try simp only [List.map_toArray, List.map_cons, List.map_nil]); first | done | rfl | (simp only [List.length_drop, List.length_take]; rfl)) ?_; (with_reducible refine (border_Range.calls k 4 9 4 3 t113 t114 t115 _ A4.out).mono ?_); rintro e w38 ⟨rfl, hb⟩; refine ⟨_, rfl, ?_⟩; have n0_ := Aside0.mk (below_step (by repeat (first | (with_reducible first | exact HB.out | apply below_alloc | apply pw_below_drewN | apply below_drew1) | exact HB.out)) hb); clear HB; have HB := n0_; clear n0_; (try clear hb); (try clear hb2); (try clear hk); (try clear hi)))
          go_ret
          exact ⟨by first | rfl | (simp [errW_none, errW_some] <;> rfl) | (simp [*, errW_none, errW_some] <;> rfl), by repeat (first | (with_reducible first | exact HB.out | apply below_alloc | apply pw_below_drewN | apply below_drew1) | exact HB.out)⟩
      · replace c7 := Bool.eq_false_iff.mpr c7
        subst c7
        have H1 : (some false) = some r := by rw [if_neg (show ¬ (false = true) by decide)] at H; exact H
        clear H
        have H := H1
        clear H1
        obtain rfl := Option.some.inj H
        go_enter Try.func10, Try.ntmps10
        go_wp2_with (first | ((with_reducible refine gate_callee (f := 9) rfl ?_); refine goesL_ (some 12) rfl rfl Try.func9 (by kernel_rfl) rfl #[.int .i64 (-1), .int .i64 3, .int .i64 1] rfl (by (try simp only [List.map_toArray, List.map_cons, List.map_nil]); first | done | rfl | (simp only [List.length_drop, List.length_take]; rfl)) ?_; (with_reducible refine (border_Index.calls k (-1) 3 1 t106 true _ A1.out).mono ?_); rintro e w39 ⟨rfl, hb⟩; refine ⟨_, rfl, ?_⟩; have n0_ := Aside0.mk (below_step (by repeat (first | (with_reducible first | exact HB.out | apply below_alloc | apply pw_below_drewN | apply below_drew1) | exact HB.out)) hb); clear HB; have HB := n0_; clear n0_; (try clear hb); (try clear hb2); (try clear hk); (try clear hi)) | ((with_reducible refine gate_callee (f := 9) rfl ?_); refine goesL_ (some 16) rfl rfl Try.func9 (by kernel_rfl) rfl #[.int .i64 3, .int .i64 3, .int .i64 1] rfl (by (try simp only [List.map_toArray, List.map_cons, List.map_nil]); first | done | rfl | (simp only [List.length_drop, List.length_take]; rfl)) ?_; (with_reducible refine (border_Index.calls k 3 3 1 t108 false _ A2.out).mono ?_); rintro e w40 ⟨rfl, hb⟩; refine ⟨_, rfl, ?_⟩; have n0_ := Aside0.mk (below_step (by repeat (first | (with_reducible first | exact HB.out | apply below_alloc | apply pw_below_drewN | apply below_drew1) | exact HB.out)) hb); clear HB; have HB := n0_; clear n0_; (try clear hb); (try clear hb2); (try clear hk); (try clear hi)) | ((with_reducible refine gate_callee (f := 17) rfl ?_); refine goesL_ (some 20) rfl rfl Try.func17 (by kernel_rfl) rfl #[.int .i64 (-2), .int .i64 1, .int .i64 4, .int .i64 2] rfl (by (try simp only [List.map_toArray, List.map_cons, List.map_nil]); first | done | rfl | (simp only [List.length_drop, List.length_take]; rfl)) ?_; (with_reducible refine (border_Range.calls k (-2) 1 4 2 t110 t111 t112 _ A3.out).mono ?_); rintro e w41 ⟨rfl, hb⟩; refine ⟨_, rfl, ?_⟩; have n0_ := Aside0.mk (below_step (by repeat (first | (with_reducible first | exact HB.out | apply below_alloc | apply pw_below_drewN | apply below_drew1) | exact HB.out)) hb); clear HB; have HB := n0_; clear n0_; (try clear hb); (try clear hb2); (try clear hk); (try clear hi)) | ((with_reducible refine gate_callee (f := 17) rfl ?_); refine goesL_ (some 25) rfl rfl Try.func17 (by kernel_rfl) rfl #[.int .i64 4, .int .i64 9, .int .i64 4, .int .i64 3] rfl (by (try simp only [List.map_toArray, List.map_cons, List.map_nil]); first | done | rfl | (simp only [List.length_drop, List.length_take]; rfl)) ?_; (with_reducible refine (border_Range.calls k 4 9 4 3 t113 t114 t115 _ A4.out).mono ?_); rintro e w42 ⟨rfl, hb⟩; refine ⟨_, rfl, ?_⟩; have n0_ := Aside0.mk (below_step (by repeat (first | (with_reducible first | exact HB.out | apply below_alloc | apply pw_below_drewN | apply below_drew1) | exact HB.out)) hb); clear HB; have HB := n0_; clear n0_; (try clear hb); (try clear hb2); (try clear hk); (try clear hi)))
        go_ret
        exact ⟨by first | rfl | (simp [errW_none, errW_some] <;> rfl) | (simp [*, errW_none, errW_some] <;> rfl), by repeat (first | (with_reducible first | exact HB.out | apply below_alloc | apply pw_below_drewN | apply below_drew1) | exact HB.out)⟩
    · rw [if_neg c6] at H
      have c6b0 : (t106 == 0) = false := beq_eq_false_iff_ne.mpr c6
      have c6b1 : (t106 != 0) = true := bne_iff_ne.mpr c6
      obtain rfl := Option.some.inj H
      go_enter Try.func10, Try.ntmps10
      go_wp2_with (first | ((with_reducible refine gate_callee (f := 9) rfl ?_); refine goesL_ (some 12) rfl rfl Try.func9 (by kernel_rfl) rfl #[.int .i64 (-1), .int .i64 3, .int .i64 1] rfl (by (try simp only [List.map_toArray, List.map_cons, List.map_nil]); first | done | rfl | (simp only [List.length_drop, List.length_take]; rfl)) ?_; (with_reducible refine (border_Index.calls k (-1) 3 1 t106 true _ A1.out).mono ?_); rintro e w43 ⟨rfl, hb⟩; refine ⟨_, rfl, ?_⟩; have n0_ := Aside0.mk (below_step (by repeat (first | (with_reducible first | exact HB.out | apply below_alloc | apply pw_below_drewN | apply below_drew1) | exact HB.out)) hb); clear HB; have HB := n0_; clear n0_; (try clear hb); (try clear hb2); (try clear hk); (try clear hi)) | ((with_reducible refine gate_callee (f := 9) rfl ?_); refine goesL_ (some 16) rfl rfl Try.func9 (by kernel_rfl) rfl #[.int .i64 3, .int .i64 3, .int .i64 1] rfl (by (try simp only [List.map_toArray, List.map_cons, List.map_nil]); first | done | rfl | (simp only [List.length_drop, List.length_take]; rfl)) ?_; (with_reducible refine (border_Index.calls k 3 3 1 t108 t109 _ A2.out).mono ?_); rintro e w44 ⟨rfl, hb⟩; refine ⟨_, rfl, ?_⟩; have n0_ := Aside0.mk (below_step (by repeat (first | (with_reducible first | exact HB.out | apply below_alloc | apply pw_below_drewN | apply below_drew1) | exact HB.out)) hb); clear HB; have HB := n0_; clear n0_; (try clear hb); (try clear hb2); (try clear hk); (try clear hi)) | ((with_reducible refine gate_callee (f := 17) rfl ?_); refine goesL_ (some 20) rfl rfl Try.func17 (by kernel_rfl) rfl #[.int .i64 (-2), .int .i64 1, .int .i64 4, .int .i64 2] rfl (by (try simp only [List.map_toArray, List.map_cons, List.map_nil]); first | done | rfl | (simp only [List.length_drop, List.length_take]; rfl)) ?_; (with_reducible refine (border_Range.calls k (-2) 1 4 2 t110 t111 t112 _ A3.out).mono ?_); rintro e w45 ⟨rfl, hb⟩; refine ⟨_, rfl, ?_⟩; have n0_ := Aside0.mk (below_step (by repeat (first | (with_reducible first | exact HB.out | apply below_alloc | apply pw_below_drewN | apply below_drew1) | exact HB.out)) hb); clear HB; have HB := n0_; clear n0_; (try clear hb); (try clear hb2); (try clear hk); (try clear hi)) | ((with_reducible refine gate_callee (f := 17) rfl ?_); refine goesL_ (some 25) rfl rfl Try.func17 (by kernel_rfl) rfl #[.int .i64 4, .int .i64 9, .int .i64 4, .int .i64 3] rfl (by (try simp only [List.map_toArray, List.map_cons, List.map_nil]); first | done | rfl | (simp only [List.length_drop, List.length_take]; rfl)) ?_; (with_reducible refine (border_Range.calls k 4 9 4 3 t113 t114 t115 _ A4.out).mono ?_); rintro e w46 ⟨rfl, hb⟩; refine ⟨_, rfl, ?_⟩; have n0_ := Aside0.mk (below_step (by repeat (first | (with_reducible first | exact HB.out | apply below_alloc | apply pw_below_drewN | apply below_drew1) | exact HB.out)) hb); clear HB; have HB := n0_; clear n0_; (try clear hb); (try clear hb2); (try clear hk); (try clear hi)))
      go_ret
      exact ⟨by first | rfl | (simp [errW_none, errW_some] <;> rfl) | (simp [*, errW_none, errW_some] <;> rfl), by repeat (first | (with_reducible first | exact HB.out | apply below_alloc | apply pw_below_drewN | apply below_drew1) | exact HB.out)⟩
  · replace c5 := Bool.eq_false_iff.mpr c5
    subst c5
    have H1 : (some false) = some r := by rw [if_neg (show ¬ (false = true) by decide)] at H; exact H
    clear H
    have H := H1
    clear H1
    obtain rfl := Option.some.inj H
    go_enter Try.func10, Try.ntmps10
    go_wp2_with (first | ((with_reducible refine gate_callee (f := 9) rfl ?_); refine goesL_ (some 12) rfl rfl Try.func9 (by kernel_rfl) rfl #[.int .i64 (-1), .int .i64 3, .int .i64 1] rfl (by (try simp only [List.map_toArray, List.map_cons, List.map_nil]); first | done | rfl | (simp only [List.length_drop, List.length_take]; rfl)) ?_; (with_reducible refine (border_Index.calls k (-1) 3 1 t106 false _ A1.out).mono ?_); rintro e w47 ⟨rfl, hb⟩; refine ⟨_, rfl, ?_⟩; have n0_ := Aside0.mk (below_step (by repeat (first | (with_reducible first | exact HB.out | apply below_alloc | apply pw_below_drewN | apply below_drew1) | exact HB.out)) hb); clear HB; have HB := n0_; clear n0_; (try clear hb); (try clear hb2); (try clear hk); (try clear hi)) | ((with_reducible refine gate_callee (f := 9) rfl ?_); refine goesL_ (some 16) rfl rfl Try.func9 (by kernel_rfl) rfl #[.int .i64 3, .int .i64 3, .int .i64 1] rfl (by (try simp only [List.map_toArray, List.map_cons, List.map_nil]); first | done | rfl | (simp only [List.length_drop, List.length_take]; rfl)) ?_; (with_reducible refine (border_Index.calls k 3 3 1 t108 t109 _ A2.out).mono ?_); rintro e w48 ⟨rfl, hb⟩; refine ⟨_, rfl, ?_⟩; have n0_ := Aside0.mk (below_step (by repeat (first | (with_reducible first | exact HB.out | apply below_alloc | apply pw_below_drewN | apply below_drew1) | exact HB.out)) hb); clear HB; have HB := n0_; clear n0_; (try clear hb); (try clear hb2); (try clear hk); (try clear hi)) | ((with_reducible refine gate_callee (f := 17) rfl ?_); refine goesL_ (some 20) rfl rfl Try.func17 (by kernel_rfl) rfl #[.int .i64 (-2), .int .i64 1, .int .i64 4, .int .i64 2] rfl (by (try simp only [List.map_toArray, List.map_cons, List.map_nil]); first | done | rfl | (simp only [List.length_drop, List.length_take]; rfl)) ?_; (with_reducible refine (border_Range.calls k (-2) 1 4 2 t110 t111 t112 _ A3.out).mono ?_); rintro e w49 ⟨rfl, hb⟩; refine ⟨_, rfl, ?_⟩; have n0_ := Aside0.mk (below_step (by repeat (first | (with_reducible first | exact HB.out | apply below_alloc | apply pw_below_drewN | apply below_drew1) | exact HB.out)) hb); clear HB; have HB := n0_; clear n0_; (try clear hb); (try clear hb2); (try clear hk); (try clear hi)) | ((with_reducible refine gate_callee (f := 17) rfl ?_); refine goesL_ (some 25) rfl rfl Try.func17 (by kernel_rfl) rfl #[.int .i64 4, .int .i64 9, .int .i64 4, .int .i64 3] rfl (by (try simp only [List.map_toArray, List.map_cons, List.map_nil]); first | done | rfl | (simp only [List.length_drop, List.length_take]; rfl)) ?_; (with_reducible refine (border_Range.calls k 4 9 4 3 t113 t114 t115 _ A4.out).mono ?_); rintro e w50 ⟨rfl, hb⟩; refine ⟨_, rfl, ?_⟩; have n0_ := Aside0.mk (below_step (by repeat (first | (with_reducible first | exact HB.out | apply below_alloc | apply pw_below_drewN | apply below_drew1) | exact HB.out)) hb); clear HB; have HB := n0_; clear n0_; (try clear hb); (try clear hb2); (try clear hk); (try clear hi)))
    go_ret
    exact ⟨by first | rfl | (simp [errW_none, errW_some] <;> rfl) | (simp [*, errW_none, errW_some] <;> rfl), by repeat (first | (with_reducible first | exact HB.out | apply below_alloc | apply pw_below_drewN | apply below_drew1) | exact HB.out)⟩

/-! ### tilefarmlaw3_BorderPeriod: function 6 -/
mutual
def tilefarmlaw3_BorderPeriod.l0 : Nat → Int → Int → Int → Option (Bool)
  | 0, _, _, _ => none
  | k + 1, x5, x6, x7 => if x7 ≤ 3 then ((border_Index.f k x6 x5 x7).bind fun bt120 => (if bt120.2 = true then (if bt120.1 < 0 then (tilefarmlaw3_BorderPeriod.j1 k x5 x6 x7 bt120.1 bt120.2 true) else (if bt120.1 ≥ x5 then (tilefarmlaw3_BorderPeriod.j1 k x5 x6 x7 bt120.1 bt120.2 true) else (if x6 ≥ 0 then (if x6 < x5 then (tilefarmlaw3_BorderPeriod.j1 k x5 x6 x7 bt120.1 bt120.2 (bt120.1 != x6)) else (tilefarmlaw3_BorderPeriod.j1 k x5 x6 x7 bt120.1 bt120.2 false)) else (tilefarmlaw3_BorderPeriod.j1 k x5 x6 x7 bt120.1 bt120.2 false)))) else (if x6 ≥ 0 then (if x6 < x5 then (tilefarmlaw3_BorderPeriod.j1 k x5 x6 x7 bt120.1 bt120.2 true) else (tilefarmlaw3_BorderPeriod.j1 k x5 x6 x7 bt120.1 bt120.2 false)) else (tilefarmlaw3_BorderPeriod.j1 k x5 x6 x7 bt120.1 bt120.2 false)))) else ((tilefarmlaw3_sane.f k).bind fun t119 => (some t119))
def tilefarmlaw3_BorderPeriod.j1 : Nat → Int → Int → Int → Int → Bool → Bool → Option (Bool)
  | 0, _, _, _, _, _, _ => none
  | k + 1, x5, x6, x7, x8, x9, x58 => if x58 = true then (some false) else ((border_Index.f k (wrap64 (x6 + (wrap64 (2 * x5)))) x5 x7).bind fun bt122 => (if x7 = 1 then (if x9 = true then (if bt122.2 = true then (tilefarmlaw3_BorderPeriod.j2 k x5 x6 x7 x8 (x8 != bt122.1)) else (tilefarmlaw3_BorderPeriod.j2 k x5 x6 x7 x8 true)) else (tilefarmlaw3_BorderPeriod.j2 k x5 x6 x7 x8 true)) else (if x7 = 2 then (if x9 = true then (if bt122.2 = true then (tilefarmlaw3_BorderPeriod.j2 k x5 x6 x7 x8 (x8 != bt122.1)) else (tilefarmlaw3_BorderPeriod.j2 k x5 x6 x7 x8 true)) else (tilefarmlaw3_BorderPeriod.j2 k x5 x6 x7 x8 true)) else (tilefarmlaw3_BorderPeriod.j2 k x5 x6 x7 x8 false))))
def tilefarmlaw3_BorderPeriod.j2 : Nat → Int → Int → Int → Int → Bool → Option (Bool)
  | 0, _, _, _, _, _ => none
  | k + 1, x5, x6, x7, x8, x87 => if x87 = true then (some false) else ((border_Index.f k (wrap64 (x6 + 1)) x5 x7).bind fun bt124 => (if x7 = 1 then (if bt124.2 = true then (if (wrap64 (bt124.1 - x8)) > 1 then (some false) else (if (wrap64 (x8 - bt124.1)) > 1 then (some false) else (tilefarmlaw3_BorderPeriod.l0 k x5 x6 (wrap64 (x7 + 1))))) else (tilefarmlaw3_BorderPeriod.l0 k x5 x6 (wrap64 (x7 + 1)))) else (tilefarmlaw3_BorderPeriod.l0 k x5 x6 (wrap64 (x7 + 1)))))
end
def tilefarmlaw3_BorderPeriod.f (k : Nat) (a0 : Int) (a1 : Int) : Option (Bool) := (tilefarmgen_Mod.f a1 128).bind fun t117 => ((tilefarmgen_Mod.f a0 4000).bind fun t118 => (tilefarmlaw3_BorderPeriod.l0 k (wrap64 (1 + t117)) (wrap64 (t118 - 2000)) 0))
theorem tilefarmlaw3_BorderPeriod.mono_l : ∀ k, (∀ y0 y1 y2, LeO (tilefarmlaw3_BorderPeriod.l0 k y0 y1 y2) (tilefarmlaw3_BorderPeriod.l0 (k + 1) y0 y1 y2)) ∧ (∀ y0 y1 y2 y3 y4 y5, LeO (tilefarmlaw3_BorderPeriod.j1 k y0 y1 y2 y3 y4 y5) (tilefarmlaw3_BorderPeriod.j1 (k + 1) y0 y1 y2 y3 y4 y5)) ∧ (∀ y0 y1 y2 y3 y4, LeO (tilefarmlaw3_BorderPeriod.j2 k y0 y1 y2 y3 y4) (tilefarmlaw3_BorderPeriod.j2 (k + 1) y0 y1 y2 y3 y4))
  | 0 => ⟨fun _ _ _ r h => by simp [tilefarmlaw3_BorderPeriod.l0] at h, fun _ _ _ _ _ _ r h => by simp [tilefarmlaw3_BorderPeriod.j1] at h, fun _ _ _ _ _ r h => by simp [tilefarmlaw3_BorderPeriod.j2] at h⟩
  | k + 1 => by
    obtain ⟨ih0, ih1, ih2⟩ := tilefarmlaw3_BorderPeriod.mono_l k
    refine ⟨?_, ?_, ?_⟩
    · intro y0 y1 y2
      unfold tilefarmlaw3_BorderPeriod.l0
      repeat' first
      | (with_reducible exact ih0 _ _ _)
      | (with_reducible exact ih1 _ _ _ _ _ _)
      | (with_reducible exact ih2 _ _ _ _ _)
      | (with_reducible exact border_Index.mono _ _ _ _)
      | (with_reducible exact tilefarmlaw3_sane.mono _)
      | (with_reducible exact LeO.refl _)
      | (with_reducible exact LeO.none _)
      | (with_reducible refine LeO.ite ?_ ?_)
      | (with_reducible refine LeO.bind ?_ (fun _ => ?_))
      | exact ih0 _ _ _
      | exact ih1 _ _ _ _ _ _
      | exact ih2 _ _ _ _ _
      | exact border_Index.mono _ _ _ _
      | exact tilefarmlaw3_sane.mono _
      | exact LeO.none _
      | refine LeO.ite ?_ ?_
      | refine LeO.bind ?_ (fun _ => ?_)
    · intro y0 y1 y2 y3 y4 y5
      unfold tilefarmlaw3_BorderPeriod.j1
      repeat' first
      | (with_reducible exact ih0 _ _ _)
      | (with_reducible exact ih1 _ _ _ _ _ _)
      | (with_reducible exact ih2 _ _ _ _ _)
      | (with_reducible exact border_Index.mono _ _ _ _)
      | (with_reducible exact tilefarmlaw3_sane.mono _)
      | (with_reducible exact LeO.refl _)
      | (with_reducible exact LeO.none _)
      | (with_reducible refine LeO.ite ?_ ?_)
      | (with_reducible refine LeO.bind ?_ (fun _ => ?_))
      | exact ih0 _ _ _
      | exact ih1 _ _ _ _ _ _
      | exact ih2 _ _ _ _ _
      | exact border_Index.mono _ _ _ _
      | exact tilefarmlaw3_sane.mono _
      | exact LeO.none _
      | refine LeO.ite ?_ ?_
      | refine LeO.bind ?_ (fun _ => ?_)
    · intro y0 y1 y2 y3 y4
      unfold tilefarmlaw3_BorderPeriod.j2
      repeat' first
      | (with_reducible exact ih0 _ _ _)
      | (with_reducible exact ih1 _ _ _ _ _ _)
      | (with_reducible exact ih2 _ _ _ _ _)
      | (with_reducible exact border_Index.mono _ _ _ _)
      | (with_reducible exact tilefarmlaw3_sane.mono _)
      | (with_reducible exact LeO.refl _)
      | (with_reducible exact LeO.none _)
      | (with_reducible refine LeO.ite ?_ ?_)
      | (with_reducible refine LeO.bind ?_ (fun _ => ?_))
      | exact ih0 _ _ _
      | exact ih1 _ _ _ _ _ _
      | exact ih2 _ _ _ _ _
      | exact border_Index.mono _ _ _ _
      | exact tilefarmlaw3_sane.mono _
      | exact LeO.none _
      | refine LeO.ite ?_ ?_
      | refine LeO.bind ?_ (fun _ => ?_)
theorem tilefarmlaw3_BorderPeriod.mono : ∀ a0 a1 k, LeO (tilefarmlaw3_BorderPeriod.f k a0 a1) (tilefarmlaw3_BorderPeriod.f (k + 1) a0 a1) := by
  intro a0 a1 k
  obtain ⟨ih0, ih1, ih2⟩ := tilefarmlaw3_BorderPeriod.mono_l k
  unfold tilefarmlaw3_BorderPeriod.f
  repeat' first
      | (with_reducible exact ih0 _ _ _)
      | (with_reducible exact ih1 _ _ _ _ _ _)
      | (with_reducible exact ih2 _ _ _ _ _)
      | (with_reducible exact border_Index.mono _ _ _ _)
      | (with_reducible exact tilefarmlaw3_sane.mono _)
      | (with_reducible exact LeO.refl _)
      | (with_reducible exact LeO.none _)
      | (with_reducible refine LeO.ite ?_ ?_)
      | (with_reducible refine LeO.bind ?_ (fun _ => ?_))
      | exact ih0 _ _ _
      | exact ih1 _ _ _ _ _ _
      | exact ih2 _ _ _ _ _
      | exact border_Index.mono _ _ _ _
      | exact tilefarmlaw3_sane.mono _
      | exact LeO.none _
      | refine LeO.ite ?_ ?_
      | refine LeO.bind ?_ (fun _ => ?_)
set_option maxHeartbeats 8000000 in
set_option maxRecDepth 100000 in
theorem tilefarmlaw3_BorderPeriod.calls (k : Nat) (a0 : Int) (a1 : Int) (r : Bool) (w : World) (h : tilefarmlaw3_BorderPeriod.f k a0 a1 = some r) :
    Calls Try.prog 6 #[.int .i64 a0, .int .i64 a1] w fun e w' => e = .returned (.bool r) ∧ Below w.heap.size w w' := by
  have HB := Aside0.mk (Below.refl w.heap.size w)
  have H : ((tilefarmgen_Mod.f a1 128).bind fun t117 => ((tilefarmgen_Mod.f a0 4000).bind fun t118 => (tilefarmlaw3_BorderPeriod.l0 k (wrap64 (1 + t117)) (wrap64 (t118 - 2000)) 0))) = some r := h
  clear h
  replace H := Option.bind_eq_some_iff.mp H
  obtain ⟨t117, A30, H⟩ := H
  replace H : ((tilefarmgen_Mod.f a0 4000).bind fun t118 => (tilefarmlaw3_BorderPeriod.l0 k (wrap64 (1 + t117)) (wrap64 (t118 - 2000)) 0)) = some r := H
  have A3 := Aside0.mk A30
  clear A30
  replace H := Option.bind_eq_some_iff.mp H
  obtain ⟨t118, A40, H⟩ := H
  replace H : (tilefarmlaw3_BorderPeriod.l0 k (wrap64 (1 + t117)) (wrap64 (t118 - 2000)) 0) = some r := H
  have A4 := Aside0.mk A40
  clear A40
  have H' := Aside0.mk H
  clear H
  go_enter Try.func6, Try.ntmps6
  go_wp2_with (first | ((with_reducible refine gate_callee (f := 8) rfl ?_); refine goesL_ (some 15) rfl rfl Try.func8 (by kernel_rfl) rfl #[.int .i64 a1, .int .i64 128] rfl (by (try simp only [List.map_toArray, List.map_cons, List.map_nil]); first | done | rfl | (simp only [List.length_drop, List.length_take]; rfl)) ?_; (with_reducible refine (tilefarmgen_Mod.calls a1 128 t117 _ A3.out).mono ?_); rintro e w' ⟨rfl, ⟨nd, rfl⟩⟩; refine ⟨_, rfl, ?_⟩) | ((with_reducible refine gate_callee (f := 8) rfl ?_); refine goesL_ (some 18) rfl rfl Try.func8 (by kernel_rfl) rfl #[.int .i64 a0, .int .i64 4000] rfl (by (try simp only [List.map_toArray, List.map_cons, List.map_nil]); first | done | rfl | (simp only [List.length_drop, List.length_take]; rfl)) ?_; (with_reducible refine (tilefarmgen_Mod.calls a0 4000 t118 _ A4.out).mono ?_); rintro e w' ⟨rfl, ⟨nd, rfl⟩⟩; refine ⟨_, rfl, ?_⟩))
  go_loopg [7] k (fun kq v7 w' => ∃ (x7_1 : Int), v7 = .int .i64 x7_1 ∧ Aside0 (tilefarmlaw3_BorderPeriod.l0 kq (wrap64 (1 + t117)) (wrap64 (t118 - 2000)) x7_1 = some r) ∧ Aside0 (kq ≤ k) ∧ Aside0 (Below w.heap.size w w'))
  case atStart => exact ⟨(0), (by first | rfl | (simp; done) | (simp [*]; done)), H', ⟨Nat.le_refl _⟩, ⟨by repeat (first | (with_reducible first | exact HB.out | apply below_alloc | apply pw_below_drewN | apply below_drew1) | exact HB.out)⟩⟩
  case round =>
    clear H'
    try clear p2
    obtain ⟨x7_1, rfl, HA, HK1, HB⟩ := hrel
    cases gk with
    | zero => exact absurd HA.out (by simp [tilefarmlaw3_BorderPeriod.l0])
    | succ k1 =>
      have H := HA.out
      clear HA
      simp only [tilefarmlaw3_BorderPeriod.l0] at H
      by_cases c5 : x7_1 ≤ 3
      · rw [if_pos c5] at H
        have c5b0 : decide (x7_1 ≤ 3) = true := decide_eq_true c5
        clear c5
        replace H := Option.bind_eq_some_iff.mp H
        obtain ⟨⟨t120, t121⟩, A60, H⟩ := H
        replace H : (if t121 = true then (if t120 < 0 then (tilefarmlaw3_BorderPeriod.j1 k1 (wrap64 (1 + t117)) (wrap64 (t118 - 2000)) x7_1 t120 t121 true) else (if t120 ≥ (wrap64 (1 + t117)) then (tilefarmlaw3_BorderPeriod.j1 k1 (wrap64 (1 + t117)) (wrap64 (t118 - 2000)) x7_1 t120 t121 true) else (if (wrap64 (t118 - 2000)) ≥ 0 then (if (wrap64 (t118 - 2000)) < (wrap64 (1 + t117)) then (tilefarmlaw3_BorderPeriod.j1 k1 (wrap64 (1 + t117)) (wrap64 (t118 - 2000)) x7_1 t120 t121 (t120 != (wrap64 (t118 - 2000)))) else (tilefarmlaw3_BorderPeriod.j1 k1 (wrap64 (1 + t117)) (wrap64 (t118 - 2000)) x7_1 t120 t121 false)) else (tilefarmlaw3_BorderPeriod.j1 k1 (wrap64 (1 + t117)) (wrap64 (t118 - 2000)) x7_1 t120 t121 false)))) else (if (wrap64 (t118 - 2000)) ≥ 0 then (if (wrap64 (t118 - 2000)) < (wrap64 (1 + t117)) then (tilefarmlaw3_BorderPeriod.j1 k1 (wrap64 (1 + t117)) (wrap64 (t118 - 2000)) x7_1 t120 t121 true) else (tilefarmlaw3_BorderPeriod.j1 k1 (wrap64 (1 + t117)) (wrap64 (t118 - 2000)) x7_1 t120 t121 false)) else (tilefarmlaw3_BorderPeriod.j1 k1 (wrap64 (1 + t117)) (wrap64 (t118 - 2000)) x7_1 t120 t121 false))) = some r := H
        have A6 := Aside0.mk A60
        clear A60
        have HC7 := Aside0.mk H
        clear H
        go_upto_region 7 with (first | ((with_reducible refine gate_callee (f := 9) rfl ?_); refine goesL_ (some 28) rfl rfl Try.func9 (by kernel_rfl) rfl #[.int .i64 (wrap64 (t118 - 2000)), .int .i64 (wrap64 (1 + t117)), .int .i64 x7_1] rfl (by (try simp only [List.map_toArray, List.map_cons, List.map_nil]); first | done | rfl | (simp only [List.length_drop, List.length_take]; rfl)) ?_; (with_reducible refine (border_Index.calls k1 (wrap64 (t118 - 2000)) (wrap64 (1 + t117)) x7_1 t120 t121 _ A6.out).mono ?_); rintro e w8 ⟨rfl, hb⟩; refine ⟨_, rfl, ?_⟩; have n0_ := Aside0.mk (below_step (by repeat (first | (with_reducible first | exact HB.out | apply below_alloc | apply pw_below_drewN | apply below_drew1) | exact HB.out)) hb); clear HB; have HB := n0_; clear n0_; (try clear hb); (try clear hb2); (try clear hk); (try clear hi)))
        (try simp only [Act.put, List.setIfInBounds_toArray, List.set_cons_zero, List.set_cons_succ])
        go_cut [58] (fun v58 wc => ∃ (kq : Nat) (x58_6 : Bool), v58 = .bool x58_6 ∧ Aside0 (tilefarmlaw3_BorderPeriod.j1 kq (wrap64 (1 + t117)) (wrap64 (t118 - 2000)) x7_1 t120 t121 x58_6 = some r) ∧ Aside0 (kq ≤ k1) ∧ Aside0 (Below w.heap.size w wc))
        case first =>
          have H := HC7.out
          clear HC7
          by_cases c9 : t121 = true
          · subst c9
            have H1 : (if t120 < 0 then (tilefarmlaw3_BorderPeriod.j1 k1 (wrap64 (1 + t117)) (wrap64 (t118 - 2000)) x7_1 t120 true true) else (if t120 ≥ (wrap64 (1 + t117)) then (tilefarmlaw3_BorderPeriod.j1 k1 (wrap64 (1 + t117)) (wrap64 (t118 - 2000)) x7_1 t120 true true) else (if (wrap64 (t118 - 2000)) ≥ 0 then (if (wrap64 (t118 - 2000)) < (wrap64 (1 + t117)) then (tilefarmlaw3_BorderPeriod.j1 k1 (wrap64 (1 + t117)) (wrap64 (t118 - 2000)) x7_1 t120 true (t120 != (wrap64 (t118 - 2000)))) else (tilefarmlaw3_BorderPeriod.j1 k1 (wrap64 (1 + t117)) (wrap64 (t118 - 2000)) x7_1 t120 true false)) else (tilefarmlaw3_BorderPeriod.j1 k1 (wrap64 (1 + t117)) (wrap64 (t118 - 2000)) x7_1 t120 true false)))) = some r := by rw [if_pos rfl] at H; exact H
            clear H
            have H := H1
            clear H1
            by_cases c10 : t120 < 0
            · rw [if_pos c10] at H
              have c10b0 : decide (t120 < 0) = true := decide_eq_true c10
              clear c10
              (first | rw [c10b0] | (simp only [i64_w, i32_w]; rw [c10b0]) | skip)
              have H' := Aside0.mk H
              clear H
              go_wp2
              go_meet
              case rel => exact ⟨_, (true), (by first | rfl | (simp; done) | (simp [*]; done)), H', ⟨by have := HK1.out; first | omega | exact Nat.le_refl _⟩, ⟨by repeat (first | (with_reducible first | exact HB.out | apply below_alloc | apply pw_below_drewN | apply below_drew1) | exact HB.out)⟩⟩
            · rw [if_neg c10] at H
              have c10b0 : decide (t120 < 0) = false := decide_eq_false c10
              clear c10
              (first | rw [c10b0] | (simp only [i64_w, i32_w]; rw [c10b0]) | skip)
              by_cases c11 : t120 ≥ (wrap64 (1 + t117))
              · rw [if_pos c11] at H
                have c11b0 : decide ((wrap64 (1 + t117)) ≤ t120) = true := decide_eq_true c11
                clear c11
                have H' := Aside0.mk H
                clear H
                go_wp2
                go_meet
                case rel => exact ⟨_, (true), (by first | rfl | (simp; done) | (simp [*]; done)), H', ⟨by have := HK1.out; first | omega | exact Nat.le_refl _⟩, ⟨by repeat (first | (with_reducible first | exact HB.out | apply below_alloc | apply pw_below_drewN | apply below_drew1) | exact HB.out)⟩⟩
              · rw [if_neg c11] at H
                have c11b0 : decide ((wrap64 (1 + t117)) ≤ t120) = false := decide_eq_false c11
                clear c11
                by_cases c12 : (wrap64 (t118 - 2000)) ≥ 0
                · rw [if_pos c12] at H
                  have c12b0 : decide (0 ≤ (wrap64 (t118 - 2000))) = true := decide_eq_true c12
                  clear c12
                  by_cases c13 : (wrap64 (t118 - 2000)) < (wrap64 (1 + t117))
                  · rw [if_pos c13] at H
                    have c13b0 : decide ((wrap64 (t118 - 2000)) < (wrap64 (1 + t117))) = true := decide_eq_true c13
                    clear c13
                    have H' := Aside0.mk H
                    clear H
                    go_wp2
                    go_meet
                    case rel => exact ⟨_, ((t120 != (wrap64 (t118 - 2000)))), (by first | rfl | (simp; done) | (simp [*]; done)), H', ⟨by have := HK1.out; first | omega | exact Nat.le_refl _⟩, ⟨by repeat (first | (with_reducible first | exact HB.out | apply below_alloc | apply pw_below_drewN | apply below_drew1) | exact HB.out)⟩⟩
                  · rw [if_neg c13] at H
                    have c13b0 : decide ((wrap64 (t118 - 2000)) < (wrap64 (1 + t117))) = false := decide_eq_false c13
                    clear c13
                    have H' := Aside0.mk H
                    clear H
                    go_wp2
                    go_meet
                    case rel => exact ⟨_, (false), (by first | rfl | (simp; done) | (simp [*]; done)), H', ⟨by have := HK1.out; first | omega | exact Nat.le_refl _⟩, ⟨by repeat (first | (with_reducible first | exact HB.out | apply below_alloc | apply pw_below_drewN | apply below_drew1) | exact HB.out)⟩⟩
                · rw [if_neg c12] at H
                  have c12b0 : decide (0 ≤ (wrap64 (t118 - 2000))) = false := decide_eq_false c12
                  clear c12
                  have H' := Aside0.mk H
                  clear H
                  go_wp2
                  go_meet
                  case rel => exact ⟨_, (false), (by first | rfl | (simp; done) | (simp [*]; done)), H', ⟨by have := HK1.out; first | omega | exact Nat.le_refl _⟩, ⟨by repeat (first | (with_reducible first | exact HB.out | apply below_alloc | apply pw_below_drewN | apply below_drew1) | exact HB.out)⟩⟩
          · replace c9 := Bool.eq_false_iff.mpr c9
            subst c9
            have H1 : (if (wrap64 (t118 - 2000)) ≥ 0 then (if (wrap64 (t118 - 2000)) < (wrap64 (1 + t117)) then (tilefarmlaw3_BorderPeriod.j1 k1 (wrap64 (1 + t117)) (wrap64 (t118 - 2000)) x7_1 t120 false true) else (tilefarmlaw3_BorderPeriod.j1 k1 (wrap64 (1 + t117)) (wrap64 (t118 - 2000)) x7_1 t120 false false)) else (tilefarmlaw3_BorderPeriod.j1 k1 (wrap64 (1 + t117)) (wrap64 (t118 - 2000)) x7_1 t120 false false)) = some r := by rw [if_neg (show ¬ (false = true) by decide)] at H; exact H
            clear H
            have H := H1
            clear H1
            by_cases c14 : (wrap64 (t118 - 2000)) ≥ 0
            · rw [if_pos c14] at H
              have c14b0 : decide (0 ≤ (wrap64 (t118 - 2000))) = true := decide_eq_true c14
              clear c14
              by_cases c15 : (wrap64 (t118 - 2000)) < (wrap64 (1 + t117))
              · rw [if_pos c15] at H
                have c15b0 : decide ((wrap64 (t118 - 2000)) < (wrap64 (1 + t117))) = true := decide_eq_true c15
                clear c15
                have H' := Aside0.mk H
                clear H
                go_wp2
                go_meet
                case rel => exact ⟨_, (true), (by first | rfl | (simp; done) | (simp [*]; done)), H', ⟨by have := HK1.out; first | omega | exact Nat.le_refl _⟩, ⟨by repeat (first | (with_reducible first | exact HB.out | apply below_alloc | apply pw_below_drewN | apply below_drew1) | exact HB.out)⟩⟩
              · rw [if_neg c15] at H
                have c15b0 : decide ((wrap64 (t118 - 2000)) < (wrap64 (1 + t117))) = false := decide_eq_false c15
                clear c15
                have H' := Aside0.mk H
                clear H
                go_wp2
                go_meet
                case rel => exact ⟨_, (false), (by first | rfl | (simp; done) | (simp [*]; done)), H', ⟨by have := HK1.out; first | omega | exact Nat.le_refl _⟩, ⟨by repeat (first | (with_reducible first | exact HB.out | apply below_alloc | apply pw_below_drewN | apply below_drew1) | exact HB.out)⟩⟩
            · rw [if_neg c14] at H
              have c14b0 : decide (0 ≤ (wrap64 (t118 - 2000))) = false := decide_eq_false c14
              clear c14
              have H' := Aside0.mk H
              clear H
              go_wp2
              go_meet
              case rel => exact ⟨_, (false), (by first | rfl | (simp; done) | (simp [*]; done)), H', ⟨by have := HK1.out; first | omega | exact Nat.le_refl _⟩, ⟨by repeat (first | (with_reducible first | exact HB.out | apply below_alloc | apply pw_below_drewN | apply below_drew1) | exact HB.out)⟩⟩
        case rest =>
          clear HC7
          try clear c1
          try clear p2
          try clear c5
          try clear c5b0
          try clear c6
          try clear p6
          try clear c8
          try clear c9
          try clear c10
          try clear c10b0
          try clear c11
          try clear c11b0
          try clear c12
          try clear c12b0
          try clear c13
          try clear c13b0
          try clear c14
          try clear c14b0
          try clear c15
          try clear c15b0
          try clear p2
          obtain ⟨kq, x58_6, rfl, HA, HJ6, HB⟩ := hcut
          cases kq with
          | zero => exact absurd HA.out (by simp [tilefarmlaw3_BorderPeriod.j1])
          | succ kj6 =>
            have H := HA.out
            clear HA
            simp only [tilefarmlaw3_BorderPeriod.j1] at H
            by_cases c16 : x58_6 = true
            · subst c16
              have H1 : (some false) = some r := by rw [if_pos rfl] at H; exact H
              clear H
              have H := H1
              clear H1
              obtain rfl := Option.some.inj H
              go_wp2
              go_ret
              exact ⟨by first | rfl | (simp [errW_none, errW_some] <;> rfl) | (simp [*, errW_none, errW_some] <;> rfl), by repeat (first | (with_reducible first | exact HB.out | apply below_alloc | apply pw_below_drewN | apply below_drew1) | exact HB.out)⟩
            · replace c16 := Bool.eq_false_iff.mpr c16
              subst c16
              have H1 : ((border_Index.f kj6 (wrap64 ((wrap64 (t118 - 2000)) + (wrap64 (2 * (wrap64 (1 + t117)))))) (wrap64 (1 + t117)) x7_1).bind fun bt122 => (if x7_1 = 1 then (if t121 = true then (if bt122.2 = true then (tilefarmlaw3_BorderPeriod.j2 kj6 (wrap64 (1 + t117)) (wrap64 (t118 - 2000)) x7_1 t120 (t120 != bt122.1)) else (tilefarmlaw3_BorderPeriod.j2 kj6 (wrap64 (1 + t117)) (wrap64 (t118 - 2000)) x7_1 t120 true)) else (tilefarmlaw3_BorderPeriod.j2 kj6 (wrap64 (1 + t117)) (wrap64 (t118 - 2000)) x7_1 t120 true)) else (if x7_1 = 2 then (if t121 = true then (if bt122.2 = true then (tilefarmlaw3_BorderPeriod.j2 kj6 (wrap64 (1 + t117)) (wrap64 (t118 - 2000)) x7_1 t120 (t120 != bt122.1)) else (tilefarmlaw3_BorderPeriod.j2 kj6 (wrap64 (1 + t117)) (wrap64 (t118 - 2000)) x7_1 t120 true)) else (tilefarmlaw3_BorderPeriod.j2 kj6 (wrap64 (1 + t117)) (wrap64 (t118 - 2000)) x7_1 t120 true)) else (tilefarmlaw3_BorderPeriod.j2 kj6 (wrap64 (1 + t117)) (wrap64 (t118 - 2000)) x7_1 t120 false)))) = some r := by rw [if_neg (show ¬ (false = true) by decide)] at H; exact H
              clear H
              have H := H1
              clear H1
              replace H := Option.bind_eq_some_iff.mp H
              obtain ⟨⟨t122, t123⟩, A170, H⟩ := H
              replace H : (if x7_1 = 1 then (if t121 = true then (if t123 = true then (tilefarmlaw3_BorderPeriod.j2 kj6 (wrap64 (1 + t117)) (wrap64 (t118 - 2000)) x7_1 t120 (t120 != t122)) else (tilefarmlaw3_BorderPeriod.j2 kj6 (wrap64 (1 + t117)) (wrap64 (t118 - 2000)) x7_1 t120 true)) else (tilefarmlaw3_BorderPeriod.j2 kj6 (wrap64 (1 + t117)) (wrap64 (t118 - 2000)) x7_1 t120 true)) else (if x7_1 = 2 then (if t121 = true then (if t123 = true then (tilefarmlaw3_BorderPeriod.j2 kj6 (wrap64 (1 + t117)) (wrap64 (t118 - 2000)) x7_1 t120 (t120 != t122)) else (tilefarmlaw3_BorderPeriod.j2 kj6 (wrap64 (1 + t117)) (wrap64 (t118 - 2000)) x7_1 t120 true)) else (tilefarmlaw3_BorderPeriod.j2 kj6 (wrap64 (1 + t117)) (wrap64 (t118 - 2000)) x7_1 t120 true)) else (tilefarmlaw3_BorderPeriod.j2 kj6 (wrap64 (1 + t117)) (wrap64 (t118 - 2000)) x7_1 t120 false))) = some r := H
              have A17 := Aside0.mk A170
              clear A170
              have HC18 := Aside0.mk H
              clear H
              go_upto_region 10 with (first | ((with_reducible refine gate_callee (f := 9) rfl ?_); refine goesL_ (some 66) rfl rfl Try.func9 (by kernel_rfl) rfl #[.int .i64 (wrap64 ((wrap64 (t118 - 2000)) + (wrap64 (2 * (wrap64 (1 + t117)))))), .int .i64 (wrap64 (1 + t117)), .int .i64 x7_1] rfl (by (try simp only [List.map_toArray, List.map_cons, List.map_nil]); first | done | rfl | (simp only [List.length_drop, List.length_take]; rfl)) ?_; (with_reducible refine (border_Index.calls kj6 (wrap64 ((wrap64 (t118 - 2000)) + (wrap64 (2 * (wrap64 (1 + t117)))))) (wrap64 (1 + t117)) x7_1 t122 t123 _ A17.out).mono ?_); rintro e w19 ⟨rfl, hb⟩; refine ⟨_, rfl, ?_⟩; have n0_ := Aside0.mk (below_step (by repeat (first | (with_reducible first | exact HB.out | apply below_alloc | apply pw_below_drewN | apply below_drew1) | exact HB.out)) hb); clear HB; have HB := n0_; clear n0_; (try clear hb); (try clear hb2); (try clear hk); (try clear hi)))
              (try simp only [Act.put, List.setIfInBounds_toArray, List.set_cons_zero, List.set_cons_succ])
              go_cut [87] (fun v87 wc => ∃ (kq : Nat) (x87_17 : Bool), v87 = .bool x87_17 ∧ Aside0 (tilefarmlaw3_BorderPeriod.j2 kq (wrap64 (1 + t117)) (wrap64 (t118 - 2000)) x7_1 t120 x87_17 = some r) ∧ Aside0 (kq ≤ kj6) ∧ Aside0 (Below w.heap.size w wc))
              case first =>
                have H := HC18.out
                clear HC18
                by_cases c20 : x7_1 = 1
                · rw [if_pos c20] at H
                  have c20b0 : (x7_1 == 1) = true := beq_iff_eq.mpr c20
                  have c20b1 : (x7_1 != 1) = false := bne_eq_false_iff_eq.mpr c20
                  clear c20
                  (first | rw [c20b0] | (simp only [i64_w, i32_w]; rw [c20b0]) | skip)
                  by_cases c21 : t121 = true
                  · subst c21
                    have H1 : (if t123 = true then (tilefarmlaw3_BorderPeriod.j2 kj6 (wrap64 (1 + t117)) (wrap64 (t118 - 2000)) x7_1 t120 (t120 != t122)) else (tilefarmlaw3_BorderPeriod.j2 kj6 (wrap64 (1 + t117)) (wrap64 (t118 - 2000)) x7_1 t120 true)) = some r := by rw [if_pos rfl] at H; exact H
                    clear H
                    have H := H1
                    clear H1
                    by_cases c22 : t123 = true
                    · subst c22
                      have H1 : (tilefarmlaw3_BorderPeriod.j2 kj6 (wrap64 (1 + t117)) (wrap64 (t118 - 2000)) x7_1 t120 (t120 != t122)) = some r := by rw [if_pos rfl] at H; exact H
                      clear H
                      have H := H1
                      clear H1
                      have H' := Aside0.mk H
                      clear H
                      go_wp2
                      go_meet
                      case rel => exact ⟨_, ((t120 != t122)), (by first | rfl | (simp; done) | (simp [*]; done)), H', ⟨by have := HK1.out; have := HJ6.out; first | omega | exact Nat.le_refl _⟩, ⟨by repeat (first | (with_reducible first | exact HB.out | apply below_alloc | apply pw_below_drewN | apply below_drew1) | exact HB.out)⟩⟩
                    · replace c22 := Bool.eq_false_iff.mpr c22
                      subst c22
                      have H1 : (tilefarmlaw3_BorderPeriod.j2 kj6 (wrap64 (1 + t117)) (wrap64 (t118 - 2000)) x7_1 t120 true) = some r := by rw [if_neg (show ¬ (false = true) by decide)] at H; exact H
                      clear H
                      have H := H1
                      clear H1
                      have H' := Aside0.mk H
                      clear H
                      go_wp2
                      go_meet
                      case rel => exact ⟨_, (true), (by first | rfl | (simp; done) | (simp [*]; done)), H', ⟨by have := HK1.out; have := HJ6.out; first | omega | exact Nat.le_refl _⟩, ⟨by repeat (first | (with_reducible first | exact HB.out | apply below_alloc | apply pw_below_drewN | apply below_drew1) | exact HB.out)⟩⟩
                  · replace c21 := Bool.eq_false_iff.mpr c21
                    subst c21
                    have H1 : (tilefarmlaw3_BorderPeriod.j2 kj6 (wrap64 (1 + t117)) (wrap64 (t118 - 2000)) x7_1 t120 true) = some r := by rw [if_neg (show ¬ (false = true) by decide)] at H; exact H
                    clear H
                    have H := H1
                    clear H1
                    have H' := Aside0.mk H
                    clear H
                    go_wp2
                    go_meet
                    case rel => exact ⟨_, (true), (by first | rfl | (simp; done) | (simp [*]; done)), H', ⟨by have := HK1.out; have := HJ6.out; first | omega | exact Nat.le_refl _⟩, ⟨by repeat (first | (with_reducible first | exact HB.out | apply below_alloc | apply pw_below_drewN | apply below_drew1) | exact HB.out)⟩⟩
                · rw [if_neg c20] at H
                  have c20b0 : (x7_1 == 1) = false := beq_eq_false_iff_ne.mpr c20
                  have c20b1 : (x7_1 != 1) = true := bne_iff_ne.mpr c20
                  (first | rw [c20b0] | (simp only [i64_w, i32_w]; rw [c20b0]) | skip)
                  by_cases c23 : x7_1 = 2
                  · rw [if_pos c23] at H
                    have c23b0 : (x7_1 == 2) = true := beq_iff_eq.mpr c23
                    have c23b1 : (x7_1 != 2) = false := bne_eq_false_iff_eq.mpr c23
                    clear c23
                    by_cases c24 : t121 = true
                    · subst c24
                      have H1 : (if t123 = true then (tilefarmlaw3_BorderPeriod.j2 kj6 (wrap64 (1 + t117)) (wrap64 (t118 - 2000)) x7_1 t120 (t120 != t122)) else (tilefarmlaw3_BorderPeriod.j2 kj6 (wrap64 (1 + t117)) (wrap64 (t118 - 2000)) x7_1 t120 true)) = some r := by rw [if_pos rfl] at H; exact H
                      clear H
                      have H := H1
                      clear H1
                      by_cases c25 : t123 = true
                      · subst c25
                        have H1 : (tilefarmlaw3_BorderPeriod.j2 kj6 (wrap64 (1 + t117)) (wrap64 (t118 - 2000)) x7_1 t120 (t120 != t122)) = some r := by rw [if_pos rfl] at H; exact H
                        clear H
                        have H := H1
                        clear H1
                        have H' := Aside0.mk H
                        clear H
                        go_wp2
                        go_meet
                        case rel => exact ⟨_, ((t120 != t122)), (by first | rfl | (simp; done) | (simp [*]; done)), H', ⟨by have := HK1.out; have := HJ6.out; first | omega | exact Nat.le_refl _⟩, ⟨by repeat (first | (with_reducible first | exact HB.out | apply below_alloc | apply pw_below_drewN | apply below_drew1) | exact HB.out)⟩⟩
                      · replace c25 := Bool.eq_false_iff.mpr c25
                        subst c25
                        have H1 : (tilefarmlaw3_BorderPeriod.j2 kj6 (wrap64 (1 + t117)) (wrap64 (t118 - 2000)) x7_1 t120 true) = some r := by rw [if_neg (show ¬ (false = true) by decide)] at H; exact H
                        clear H
                        have H := H1
                        clear H1
                        have H' := Aside0.mk H
                        clear H
                        go_wp2
                        go_meet
                        case rel => exact ⟨_, (true), (by first | rfl | (simp; done) | (simp [*]; done)), H', ⟨by have := HK1.out; have := HJ6.out; first | omega | exact Nat.le_refl _⟩, ⟨by repeat (first | (with_reducible first | exact HB.out | apply below_alloc | apply pw_below_drewN | apply below_drew1) | exact HB.out)⟩⟩
                    · replace c24 := Bool.eq_false_iff.mpr c24
                      subst c24
                      have H1 : (tilefarmlaw3_BorderPeriod.j2 kj6 (wrap64 (1 + t117)) (wrap64 (t118 - 2000)) x7_1 t120 true) = some r := by rw [if_neg (show ¬ (false = true) by decide)] at H; exact H
                      clear H
                      have H := H1
                      clear H1
                      have H' := Aside0.mk H
                      clear H
                      go_wp2
                      go_meet
                      case rel => exact ⟨_, (true), (by first | rfl | (simp; done) | (simp [*]; done)), H', ⟨by have := HK1.out; have := HJ6.out; first | omega | exact Nat.le_refl _⟩, ⟨by repeat (first | (with_reducible first | exact HB.out | apply below_alloc | apply pw_below_drewN | apply below_drew1) | exact HB.out)⟩⟩
                  · rw [if_neg c23] at H
                    have c23b0 : (x7_1 == 2) = false := beq_eq_false_iff_ne.mpr c23
                    have c23b1 : (x7_1 != 2) = true := bne_iff_ne.mpr c23
                    have H' := Aside0.mk H
                    clear H
                    go_wp2
                    go_meet
                    case rel => exact ⟨_, (false), (by first | rfl | (simp; done) | (simp [*]; done)), H', ⟨by have := HK1.out; have := HJ6.out; first | omega | exact Nat.le_refl _⟩, ⟨by repeat (first | (with_reducible first | exact HB.out | apply below_alloc | apply pw_below_drewN | apply below_drew1) | exact HB.out)⟩⟩
              case rest =>
                clear HC18
                try clear c1
                try clear c2
                try clear p2
                try clear c5
                try clear c5b0
                try clear c6
                try clear p6
                try clear c8
                try clear c9
                try clear c10
                try clear c10b0
                try clear c11
                try clear c11b0
                try clear c12
                try clear c12b0
                try clear c13
                try clear c13b0
                try clear c14
                try clear c14b0
                try clear c15
                try clear c15b0
                try clear c16
                try clear c20
                try clear c20b0
                try clear c20b1
                try clear c21
                try clear c22
                try clear c23
                try clear c23b0
                try clear c23b1
                try clear c24
                try clear c25
                try clear p2
                try clear p6
                obtain ⟨kq, x87_17, rfl, HA, HJ17, HB⟩ := hcut
                cases kq with
                | zero => exact absurd HA.out (by simp [tilefarmlaw3_BorderPeriod.j2])
                | succ kj17 =>
                  have H := HA.out
                  clear HA
                  simp only [tilefarmlaw3_BorderPeriod.j2] at H
                  by_cases c26 : x87_17 = true
                  · subst c26
                    have H1 : (some false) = some r := by rw [if_pos rfl] at H; exact H
                    clear H
                    have H := H1
                    clear H1
                    obtain rfl := Option.some.inj H
                    go_wp2
                    go_ret
                    exact ⟨by first | rfl | (simp [errW_none, errW_some] <;> rfl) | (simp [*, errW_none, errW_some] <;> rfl), by repeat (first | (with_reducible first | exact HB.out | apply below_alloc | apply pw_below_drewN | apply below_drew1) | exact HB.out)⟩
                  · replace c26 := Bool.eq_false_iff.mpr c26
                    subst c26
                    have H1 : ((border_Index.f kj17 (wrap64 ((wrap64 (t118 - 2000)) + 1)) (wrap64 (1 + t117)) x7_1).bind fun bt124 => (if x7_1 = 1 then (if bt124.2 = true then (if (wrap64 (bt124.1 - t120)) > 1 then (some false) else (if (wrap64 (t120 - bt124.1)) > 1 then (some false) else (tilefarmlaw3_BorderPeriod.l0 kj17 (wrap64 (1 + t117)) (wrap64 (t118 - 2000)) (wrap64 (x7_1 + 1))))) else (tilefarmlaw3_BorderPeriod.l0 kj17 (wrap64 (1 + t117)) (wrap64 (t118 - 2000)) (wrap64 (x7_1 + 1)))) else (tilefarmlaw3_BorderPeriod.l0 kj17 (wrap64 (1 + t117)) (wrap64 (t118 - 2000)) (wrap64 (x7_1 + 1))))) = some r := by rw [if_neg (show ¬ (false = true) by decide)] at H; exact H
                    clear H
                    have H := H1
                    clear H1
                    replace H := Option.bind_eq_some_iff.mp H
                    obtain ⟨⟨t124, t125⟩, A270, H⟩ := H
                    replace H : (if x7_1 = 1 then (if t125 = true then (if (wrap64 (t124 - t120)) > 1 then (some false) else (if (wrap64 (t120 - t124)) > 1 then (some false) else (tilefarmlaw3_BorderPeriod.l0 kj17 (wrap64 (1 + t117)) (wrap64 (t118 - 2000)) (wrap64 (x7_1 + 1))))) else (tilefarmlaw3_BorderPeriod.l0 kj17 (wrap64 (1 + t117)) (wrap64 (t118 - 2000)) (wrap64 (x7_1 + 1)))) else (tilefarmlaw3_BorderPeriod.l0 kj17 (wrap64 (1 + t117)) (wrap64 (t118 - 2000)) (wrap64 (x7_1 + 1)))) = some r := H
                    have A27 := Aside0.mk A270
                    clear A270
                    by_cases c28 : x7_1 = 1
                    · rw [if_pos c28] at H
                      have c28b0 : (x7_1 == 1) = true := beq_iff_eq.mpr c28
                      have c28b1 : (x7_1 != 1) = false := bne_eq_false_iff_eq.mpr c28
                      clear c28
                      by_cases c29 : t125 = true
                      · subst c29
                        have H1 : (if (wrap64 (t124 - t120)) > 1 then (some false) else (if (wrap64 (t120 - t124)) > 1 then (some false) else (tilefarmlaw3_BorderPeriod.l0 kj17 (wrap64 (1 + t117)) (wrap64 (t118 - 2000)) (wrap64 (x7_1 + 1))))) = some r := by rw [if_pos rfl] at H; exact H
                        clear H
                        have H := H1
                        clear H1
                        by_cases c30 : (wrap64 (t124 - t120)) > 1
                        · rw [if_pos c30] at H
                          have c30b0 : decide (1 < (wrap64 (t124 - t120))) = true := decide_eq_true c30
                          clear c30
                          obtain rfl := Option.some.inj H
                          go_wp2_with (first | ((with_reducible refine gate_callee (f := 9) rfl ?_); refine goesL_ (some 93) rfl rfl Try.func9 (by kernel_rfl) rfl #[.int .i64 (wrap64 ((wrap64 (t118 - 2000)) + 1)), .int .i64 (wrap64 (1 + t117)), .int .i64 x7_1] rfl (by (try simp only [List.map_toArray, List.map_cons, List.map_nil]); first | done | rfl | (simp only [List.length_drop, List.length_take]; rfl)) ?_; (with_reducible refine (border_Index.calls kj17 (wrap64 ((wrap64 (t118 - 2000)) + 1)) (wrap64 (1 + t117)) x7_1 t124 true _ A27.out).mono ?_); rintro e w31 ⟨rfl, hb⟩; refine ⟨_, rfl, ?_⟩; have n0_ := Aside0.mk (below_step (by repeat (first | (with_reducible first | exact HB.out | apply below_alloc | apply pw_below_drewN | apply below_drew1) | exact HB.out)) hb); clear HB; have HB := n0_; clear n0_; (try clear hb); (try clear hb2); (try clear hk); (try clear hi)))
                          go_ret
                          exact ⟨by first | rfl | (simp [errW_none, errW_some] <;> rfl) | (simp [*, errW_none, errW_some] <;> rfl), by repeat (first | (with_reducible first | exact HB.out | apply below_alloc | apply pw_below_drewN | apply below_drew1) | exact HB.out)⟩
                        · rw [if_neg c30] at H
                          have c30b0 : decide (1 < (wrap64 (t124 - t120))) = false := decide_eq_false c30
                          clear c30
                          by_cases c32 : (wrap64 (t120 - t124)) > 1
                          · rw [if_pos c32] at H
                            have c32b0 : decide (1 < (wrap64 (t120 - t124))) = true := decide_eq_true c32
                            clear c32
                            obtain rfl := Option.some.inj H
                            go_wp2_with (first | ((with_reducible refine gate_callee (f := 9) rfl ?_); refine goesL_ (some 93) rfl rfl Try.func9 (by kernel_rfl) rfl #[.int .i64 (wrap64 ((wrap64 (t118 - 2000)) + 1)), .int .i64 (wrap64 (1 + t117)), .int .i64 x7_1] rfl (by (try simp only [List.map_toArray, List.map_cons, List.map_nil]); first | done | rfl | (simp only [List.length_drop, List.length_take]; rfl)) ?_; (with_reducible refine (border_Index.calls kj17 (wrap64 ((wrap64 (t118 - 2000)) + 1)) (wrap64 (1 + t117)) x7_1 t124 true _ A27.out).mono ?_); rintro e w33 ⟨rfl, hb⟩; refine ⟨_, rfl, ?_⟩; have n0_ := Aside0.mk (below_step (by repeat (first | (with_reducible first | exact HB.out | apply below_alloc | apply pw_below_drewN | apply below_drew1) | exact HB.out)) hb); clear HB; have HB := n0_; clear n0_; (try clear hb); (try clear hb2); (try clear hk); (try clear hi)))
                            go_ret
                            exact ⟨by first | rfl | (simp [errW_none, errW_some] <;> rfl) | (simp [*, errW_none, errW_some] <;> rfl), by repeat (first | (with_reducible first | exact HB.out | apply below_alloc | apply pw_below_drewN | apply below_drew1) | exact HB.out)⟩
                          · rw [if_neg c32] at H
                            have c32b0 : decide (1 < (wrap64 (t120 - t124))) = false := decide_eq_false c32
                            clear c32
                            have H' := Aside0.mk H
                            clear H
                            go_wp2_with (first | ((with_reducible refine gate_callee (f := 9) rfl ?_); refine goesL_ (some 93) rfl rfl Try.func9 (by kernel_rfl) rfl #[.int .i64 (wrap64 ((wrap64 (t118 - 2000)) + 1)), .int .i64 (wrap64 (1 + t117)), .int .i64 x7_1] rfl (by (try simp only [List.map_toArray, List.map_cons, List.map_nil]); first | done | rfl | (simp only [List.length_drop, List.length_take]; rfl)) ?_; (with_reducible refine (border_Index.calls kj17 (wrap64 ((wrap64 (t118 - 2000)) + 1)) (wrap64 (1 + t117)) x7_1 t124 true _ A27.out).mono ?_); rintro e w34 ⟨rfl, hb⟩; refine ⟨_, rfl, ?_⟩; have n0_ := Aside0.mk (below_step (by repeat (first | (with_reducible first | exact HB.out | apply below_alloc | apply pw_below_drewN | apply below_drew1) | exact HB.out)) hb); clear HB; have HB := n0_; clear n0_; (try clear hb); (try clear hb2); (try clear hk); (try clear hi)))
                            go_roundg kj17
                            case measure => have := HK1.out; have := HJ6.out; have := HJ17.out; omega
                            case rel => exact ⟨(wrap64 (x7_1 + 1)), (by first | rfl | (simp; done) | (simp [*]; done)), H', ⟨by have := HK1.out; have := HJ6.out; have := HJ17.out; omega⟩, ⟨by repeat (first | (with_reducible first | exact HB.out | apply below_alloc | apply pw_below_drewN | apply below_drew1) | exact HB.out)⟩⟩
                      · replace c29 := Bool.eq_false_iff.mpr c29
                        subst c29
                        have H1 : (tilefarmlaw3_BorderPeriod.l0 kj17 (wrap64 (1 + t117)) (wrap64 (t118 - 2000)) (wrap64 (x7_1 + 1))) = some r := by rw [if_neg (show ¬ (false = true) by decide)] at H; exact H
                        clear H
                        have H := H1
                        clear H1
                        have H' := Aside0.mk H
                        clear H
                        go_wp2_with (first | ((with_reducible refine gate_callee (f := 9) rfl ?_); refine goesL_ (some 93) rfl rfl Try.func9 (by kernel_rfl) rfl #[.int .i64 (wrap64 ((wrap64 (t118 - 2000)) + 1)), .int .i64 (wrap64 (1 + t117)), .int .i64 x7_1] rfl (by (try simp only [List.map_toArray, List.map_cons, List.map_nil]); first | done | rfl | (simp only [List.length_drop, List.length_take]; rfl)) ?_; (with_reducible refine (border_Index.calls kj17 (wrap64 ((wrap64 (t118 - 2000)) + 1)) (wrap64 (1 + t117)) x7_1 t124 false _ A27.out).mono ?_); rintro e w35 ⟨rfl, hb⟩; refine ⟨_, rfl, ?_⟩; have n0_ := Aside0.mk (below_step (by repeat (first | (with_reducible first | exact HB.out | apply below_alloc | apply pw_below_drewN | apply below_drew1) | exact HB.out)) hb); clear HB; have HB := n0_; clear n0_; (try clear hb); (try clear hb2); (try clear hk); (try clear hi)))
                        go_roundg kj17
                        case measure => have := HK1.out; have := HJ6.out; have := HJ17.out; omega
                        case rel => exact ⟨(wrap64 (x7_1 + 1)), (by first | rfl | (simp; done) | (simp [*]; done)), H', ⟨by have := HK1.out; have := HJ6.out; have := HJ17.out; omega⟩, ⟨by repeat (first | (with_reducible first | exact HB.out | apply below_alloc | apply pw_below_drewN | apply below_drew1) | exact HB.out)⟩⟩
                    · rw [if_neg c28] at H
                      have c28b0 : (x7_1 == 1) = false := beq_eq_false_iff_ne.mpr c28
                      have c28b1 : (x7_1 != 1) = true := bne_iff_ne.mpr c28
                      have H' := Aside0.mk H
                      clear H
                      go_wp2_with (first | ((with_reducible refine gate_callee (f := 9) rfl ?_); refine goesL_ (some 93) rfl rfl Try.func9 (by kernel_rfl) rfl #[.int .i64 (wrap64 ((wrap64 (t118 - 2000)) + 1)), .int .i64 (wrap64 (1 + t117)), .int .i64 x7_1] rfl (by (try simp only [List.map_toArray, List.map_cons, List.map_nil]); first | done | rfl | (simp only [List.length_drop, List.length_take]; rfl)) ?_; (with_reducible refine (border_Index.calls kj17 (wrap64 ((wrap64 (t118 - 2000)) + 1)) (wrap64 (1 + t117)) x7_1 t124 t125 _ A27.out).mono ?_); rintro e w36 ⟨rfl, hb⟩; refine ⟨_, rfl, ?_⟩; have n0_ := Aside0.mk (below_step (by repeat (first | (with_reducible first | exact HB.out | apply below_alloc | apply pw_below_drewN | apply below_drew1) | exact HB.out)) hb); clear HB; have HB := n0_; clear n0_; (try clear hb); (try clear hb2); (try clear hk); (try clear hi)))
                      go_roundg kj17
                      case measure => have := HK1.out; have := HJ6.out; have := HJ17.out; omega
                      case rel => exact ⟨(wrap64 (x7_1 + 1)), (by first | rfl | (simp; done) | (simp [*]; done)), H', ⟨by have := HK1.out; have := HJ6.out; have := HJ17.out; omega⟩, ⟨by repeat (first | (with_reducible first | exact HB.out | apply below_alloc | apply pw_below_drewN | apply below_drew1) | exact HB.out)⟩⟩
      · rw [if_neg c5] at H
        have c5b0 : decide (x7_1 ≤ 3) = false := decide_eq_false c5
        clear c5
        replace H := Option.bind_eq_some_iff.mp H
        obtain ⟨t119, A370, H⟩ := H
        replace H : (some t119) = some r := H
        have A37 := Aside0.mk A370
        clear A370
        obtain rfl := Option.some.inj H
        go_wp2_with (first | ((with_reducible refine gate_callee (f := 10) rfl ?_); refine goesL_ (some 113) rfl rfl Try.func10 (by kernel_rfl) rfl #[] rfl (by (try simp only [List.map_toArray, List.map_cons, List.map_nil]); first | done | rfl | (simp only [List.length_drop, List.length_take]; rfl)) ?_; (with_reducible refine (tilefarmlaw3_sane.calls k1  t119 _ A37.out).mono ?_); rintro e w38 ⟨rfl, hb⟩; refine ⟨_, rfl, ?_⟩; have n0_ := Aside0.mk (below_step (by repeat (first | (with_reducible first | exact HB.out | apply below_alloc | apply pw_below_drewN | apply below_drew1) | exact HB.out)) hb); clear HB; have HB := n0_; clear n0_; (try clear hb); (try clear hb2); (try clear hk); (try clear hi)))
        go_ret
        exact ⟨by first | rfl | (simp [errW_none, errW_some] <;> rfl) | (simp [*, errW_none, errW_some] <;> rfl), by repeat (first | (with_reducible first | exact HB.out | apply below_alloc | apply pw_below_drewN | apply below_drew1) | exact HB.out)⟩

/-- THE ONE PURE STATEMENT of tilefarmlaw3_BorderPeriod: yours. -/
def tilefarmlaw3_BorderPeriod.Pure : Prop := ∀ (a0 : Int) (a1 : Int), (Lit.int .i64 a0).wf = true → (Lit.int .i64 a1).wf = true → ∃ k, tilefarmlaw3_BorderPeriod.f k a0 a1 = some true
theorem tilefarmlaw3_BorderPeriod.walk (P : tilefarmlaw3_BorderPeriod.Pure) (a0 : Int) (a1 : Int) (w : World) (w0 : (Lit.int .i64 a0).wf = true) (w1 : (Lit.int .i64 a1).wf = true) :
    Calls Try.prog 6 #[.int .i64 a0, .int .i64 a1] w fun e w' => e = .returned (.bool true) ∧ Below w.heap.size w w' := by
  obtain ⟨k, h⟩ := P a0 a1 w0 w1
  refine (tilefarmlaw3_BorderPeriod.calls k a0 a1 true w h).mono ?_
  rintro e w' ⟨rfl, hd⟩
  exact ⟨rfl, hd⟩

end Go.Proofs.Ytagdbpbajkojoaa.PBorderPeriod
