-- Written by a program of the session (wip/tools/myprint.py) over the kit's printer; checked by Lean.
import Derived.Test.YtepbjipmfchpnaaPFixedClampsx0
import Derived.Test.YtepbjipmfchpnaaPFixedClampsx1
namespace Go.Proofs.Ytepbjipmfchpnaa.PFixedClamps
open Go.RowKit Go.Proofs.YtepbjipmfchpnaaW.PrintWords Go.Proofs.YtepbjipmfchpnaaW.PrintLast Go.Proofs.YtepbjipmfchpnaaW.PrintMore
attribute [local go_sem] max2_int min2_int max_two min_two max_three min_three max_four min_four   -- for this text's walks alone
set_option linter.unusedVariables false
set_option linter.unusedSimpArgs false

/-! ### tilefarmlaw7_sane: function 15 -/
def tilefarmlaw7_sane.f (k : Nat)  : Option (Bool) := (fixed_Bounds.f k (([1, (-2)] : List Int)) 0 10).bind fun bt107 => ((fixed_Shift.f k 5 1).bind fun t110 => (if t110 = 3 then ((fixed_Shift.f k (-5) 1).bind fun t111 => (if t111 = (-2) then ((fixed_Shift.f k (-6) 2).bind fun t112 => (if t112 = (-1) then (if bt107.2.2 = true then (if bt107.1 = (-20) then (if bt107.2.1 = 10 then ((fixed_Clamp.f 9 5).bind fun t113 => (some (t113 == 5))) else (some false)) else (some false)) else (some false)) else (some false))) else (some false))) else (some false)))
theorem tilefarmlaw7_sane.mono : ∀ k, LeO (tilefarmlaw7_sane.f k ) (tilefarmlaw7_sane.f (k + 1) ) := by
  intro  k
  unfold tilefarmlaw7_sane.f
  repeat' first
      | (with_reducible exact fixed_Bounds.mono _ _ _ _)
      | (with_reducible exact fixed_Shift.mono _ _ _)
      | (with_reducible exact LeO.refl _)
      | (with_reducible exact LeO.none _)
      | (with_reducible refine LeO.ite ?_ ?_)
      | (with_reducible refine LeO.bind ?_ (fun _ => ?_))
      | exact fixed_Bounds.mono _ _ _ _
      | exact fixed_Shift.mono _ _ _
      | exact LeO.none _
      | refine LeO.ite ?_ ?_
      | refine LeO.bind ?_ (fun _ => ?_)
set_option maxHeartbeats 8000000 in
set_option maxRecDepth 100000 in
theorem tilefarmlaw7_sane.calls (k : Nat)  (r : Bool) (w : World) (h : tilefarmlaw7_sane.f k  = some r) :
    Calls Try.prog 15 #[] w fun e w' => e = .returned (.bool r) ∧ Below w.heap.size w w' := by
  have HB := Aside0.mk (Below.refl w.heap.size w)
  have H : ((fixed_Bounds.f k (([1, (-2)] : List Int)) 0 10).bind fun bt107 => ((fixed_Shift.f k 5 1).bind fun t110 => (if t110 = 3 then ((fixed_Shift.f k (-5) 1).bind fun t111 => (if t111 = (-2) then ((fixed_Shift.f k (-6) 2).bind fun t112 => (if t112 = (-1) then (if bt107.2.2 = true then (if bt107.1 = (-20) then (if bt107.2.1 = 10 then ((fixed_Clamp.f 9 5).bind fun t113 => (some (t113 == 5))) else (some false)) else (some false)) else (some false)) else (some false))) else (some false))) else (some false)))) = some r := h
  clear h
  obtain ⟨y104, hy104⟩ : ∃ y_ : List Int, y_ = (([1, (-2)] : List Int)) := ⟨_, rfl⟩
  replace H : ((fixed_Bounds.f k y104 0 10).bind fun bt107 => ((fixed_Shift.f k 5 1).bind fun t110 => (if t110 = 3 then ((fixed_Shift.f k (-5) 1).bind fun t111 => (if t111 = (-2) then ((fixed_Shift.f k (-6) 2).bind fun t112 => (if t112 = (-1) then (if bt107.2.2 = true then (if bt107.1 = (-20) then (if bt107.2.1 = 10 then ((fixed_Clamp.f 9 5).bind fun t113 => (some (t113 == 5))) else (some false)) else (some false)) else (some false)) else (some false))) else (some false))) else (some false)))) = some r := by first | (rw [hy104]; with_reducible exact H) | (have H2_ := (Option.bind_some _ _).symm.trans H; rw [hy104]; with_reducible exact H2_) | (have H2_ := (Option.bind_some _ _).symm.trans H; with_reducible exact H2_) | with_reducible exact H | (rw [hy104]; exact H) | exact H
  have Ny104 := Aside0.mk hy104
  clear hy104
  replace H := Option.bind_eq_some_iff.mp H
  obtain ⟨⟨t107, t108, t109⟩, A10, H⟩ := H
  replace H : ((fixed_Shift.f k 5 1).bind fun t110 => (if t110 = 3 then ((fixed_Shift.f k (-5) 1).bind fun t111 => (if t111 = (-2) then ((fixed_Shift.f k (-6) 2).bind fun t112 => (if t112 = (-1) then (if t109 = true then (if t107 = (-20) then (if t108 = 10 then ((fixed_Clamp.f 9 5).bind fun t113 => (some (t113 == 5))) else (some false)) else (some false)) else (some false)) else (some false))) else (some false))) else (some false))) = some r := H
  have A1 := Aside0.mk A10
  clear A10
  replace H := Option.bind_eq_some_iff.mp H
  obtain ⟨t110, A20, H⟩ := H
  replace H : (if t110 = 3 then ((fixed_Shift.f k (-5) 1).bind fun t111 => (if t111 = (-2) then ((fixed_Shift.f k (-6) 2).bind fun t112 => (if t112 = (-1) then (if t109 = true then (if t107 = (-20) then (if t108 = 10 then ((fixed_Clamp.f 9 5).bind fun t113 => (some (t113 == 5))) else (some false)) else (some false)) else (some false)) else (some false))) else (some false))) else (some false)) = some r := H
  have A2 := Aside0.mk A20
  clear A20
  by_cases c3 : t110 = 3
  · rw [if_pos c3] at H
    have c3b0 : (t110 == 3) = true := beq_iff_eq.mpr c3
    have c3b1 : (t110 != 3) = false := bne_eq_false_iff_eq.mpr c3
    clear c3
    replace H := Option.bind_eq_some_iff.mp H
    obtain ⟨t111, A40, H⟩ := H
    replace H : (if t111 = (-2) then ((fixed_Shift.f k (-6) 2).bind fun t112 => (if t112 = (-1) then (if t109 = true then (if t107 = (-20) then (if t108 = 10 then ((fixed_Clamp.f 9 5).bind fun t113 => (some (t113 == 5))) else (some false)) else (some false)) else (some false)) else (some false))) else (some false)) = some r := H
    have A4 := Aside0.mk A40
    clear A40
    by_cases c5 : t111 = (-2)
    · rw [if_pos c5] at H
      have c5b0 : (t111 == (-2)) = true := beq_iff_eq.mpr c5
      have c5b1 : (t111 != (-2)) = false := bne_eq_false_iff_eq.mpr c5
      clear c5
      replace H := Option.bind_eq_some_iff.mp H
      obtain ⟨t112, A60, H⟩ := H
      replace H : (if t112 = (-1) then (if t109 = true then (if t107 = (-20) then (if t108 = 10 then ((fixed_Clamp.f 9 5).bind fun t113 => (some (t113 == 5))) else (some false)) else (some false)) else (some false)) else (some false)) = some r := H
      have A6 := Aside0.mk A60
      clear A60
      by_cases c7 : t112 = (-1)
      · rw [if_pos c7] at H
        have c7b0 : (t112 == (-1)) = true := beq_iff_eq.mpr c7
        have c7b1 : (t112 != (-1)) = false := bne_eq_false_iff_eq.mpr c7
        clear c7
        by_cases c8 : t109 = true
        · subst c8
          have H1 : (if t107 = (-20) then (if t108 = 10 then ((fixed_Clamp.f 9 5).bind fun t113 => (some (t113 == 5))) else (some false)) else (some false)) = some r := by rw [if_pos rfl] at H; exact H
          clear H
          have H := H1
          clear H1
          by_cases c9 : t107 = (-20)
          · rw [if_pos c9] at H
            have c9b0 : (t107 == (-20)) = true := beq_iff_eq.mpr c9
            have c9b1 : (t107 != (-20)) = false := bne_eq_false_iff_eq.mpr c9
            clear c9
            by_cases c10 : t108 = 10
            · rw [if_pos c10] at H
              have c10b0 : (t108 == 10) = true := beq_iff_eq.mpr c10
              have c10b1 : (t108 != 10) = false := bne_eq_false_iff_eq.mpr c10
              clear c10
              replace H := Option.bind_eq_some_iff.mp H
              obtain ⟨t113, A110, H⟩ := H
              replace H : (some (t113 == 5)) = some r := H
              have A11 := Aside0.mk A110
              clear A110
              obtain rfl := Option.some.inj H
              go_enter Try.func15, Try.ntmps15
              go_wp2_with (first | ((with_reducible refine gate_dst (N := 5) rfl ?_); refine Kd.R_lit (Kd.int .i64) _ 3 ?hg (N := 5) ?hd (xs := ([1, (-2)] : List Int)) (inner := [.int .i64 1, .int .i64 (-2)]) (ok := fun _ => True) (okp := fun _ => True) ?hr ?hp (fun _ hk => hk) trivial (Below.refl _ _) (Nat.le_refl _) (by simp) ?_; (case hd => rfl); (case hg => rfl); (case hr => first | (go_simp; done) | (go_simp; rfl)); (case hp => exact (Reps.one (show Kd.M (Kd.int .i64) _ _ _ 1 [.int .i64 1] from rfl) (Reps.one (show Kd.M (Kd.int .i64) _ _ _ (-2) [.int .i64 (-2)] from rfl) (Reps.none _ _)))); intro v105 w12 ho13 hb hg_ hnew_; clear hg_ hnew_; (first | rw [← Ny104.out] at ho13 | (simp only [Int.reduceToNat] at ho13; rw [← Ny104.out] at ho13)); have n0_ := Aside0.mk (Kd.R_lower ho13 (below_size (by repeat (first | (with_reducible first | exact HB.out | apply below_alloc | apply pw_below_drewN | apply below_drew1) | exact HB.out)))); have n1_ := Aside0.mk (below_step (by repeat (first | (with_reducible first | exact HB.out | apply below_alloc | apply pw_below_drewN | apply below_drew1) | exact HB.out)) hb); clear HB; have HO106 := n0_; have HB := n1_; clear n0_ n1_; clear hb ho13; obtain ⟨Ao14, co14, eo14⟩ := Kd.R_slice HO106.out; subst eo14) | ((with_reducible refine gate_callee (f := 11) rfl ?_); refine goesL_ (some 6) rfl rfl Try.func11 (by kernel_rfl) rfl #[.slice Ao14 y104.length co14, .int .i64 0, .int .i64 10] rfl (by (try simp only [List.map_toArray, List.map_cons, List.map_nil]); first | done | rfl | (simp only [List.length_drop, List.length_take]; rfl)) ?_; (with_reducible refine (fixed_Bounds.calls k _ _ y104 0 10 t107 t108 true _ ?side1 ?side2 A1.out).mono ?_); (case side1 => repeat (first | exact (Kd.R_reads' HO106.out).2.2 | (with_reducible refine Kd.C_alloc ?_ _) | (with_reducible refine Kd.C_drewN ?_ _) | (with_reducible refine Kd.C_drew ?_))); (case side2 => exact (Kd.R_reads' HO106.out).2.1); rintro e w15 ⟨rfl, hb⟩; refine ⟨_, rfl, ?_⟩; have n0_ := Aside0.mk (Kd.R_below (by (with_reducible repeat (first | apply Kd.R_alloc | apply Kd.R_drewN | apply Kd.R_drew)); exact HO106.out) hb); have n1_ := Aside0.mk (below_step (by repeat (first | (with_reducible first | exact HB.out | apply below_alloc | apply pw_below_drewN | apply below_drew1) | exact HB.out)) hb); clear HO106; clear HB; have HO106 := n0_; have HB := n1_; clear n0_ n1_; (try clear hb); (try clear hb2); (try clear hk); (try clear hi)) | ((with_reducible refine gate_callee (f := 20) rfl ?_); refine goesL_ (some 10) rfl rfl Try.func20 (by kernel_rfl) rfl #[.int .i64 5, .int .i64 1] rfl (by (try simp only [List.map_toArray, List.map_cons, List.map_nil]); first | done | rfl | (simp only [List.length_drop, List.length_take]; rfl)) ?_; (with_reducible refine (fixed_Shift.calls k 5 1 t110 _ A2.out).mono ?_); rintro e w' ⟨rfl, ⟨nd, rfl⟩⟩; refine ⟨_, rfl, ?_⟩) | (go_at_call 20; (with_reducible refine (fixed_Shift.calls k (-5) 1 t111 _ A4.out).mono ?_); rintro e w' ⟨rfl, ⟨nd, rfl⟩⟩) | (go_at_call 20; (with_reducible refine (fixed_Shift.calls k (-6) 2 t112 _ A6.out).mono ?_); rintro e w' ⟨rfl, ⟨nd, rfl⟩⟩) | (go_at_call 17; (with_reducible refine (fixed_Clamp.calls 9 5 t113 _ A11.out).mono ?_); rintro e w16 ⟨rfl, hb⟩; have n0_ := Aside0.mk (Kd.R_below (by (with_reducible repeat (first | apply Kd.R_alloc | apply Kd.R_drewN | apply Kd.R_drew)); exact HO106.out) hb); have n1_ := Aside0.mk (below_step (by repeat (first | (with_reducible first | exact HB.out | apply below_alloc | apply pw_below_drewN | apply below_drew1) | exact HB.out)) hb); clear HO106; clear HB; have HO106 := n0_; have HB := n1_; clear n0_ n1_; (try clear hb); (try clear hb2); (try clear hk); (try clear hi)))
              go_ret
              exact ⟨by first | rfl | (simp [errW_none, errW_some] <;> rfl) | (simp [*, errW_none, errW_some] <;> rfl), by repeat (first | (with_reducible first | exact HB.out | apply below_alloc | apply pw_below_drewN | apply below_drew1) | exact HB.out)⟩
            · rw [if_neg c10] at H
              have c10b0 : (t108 == 10) = false := beq_eq_false_iff_ne.mpr c10
              have c10b1 : (t108 != 10) = true := bne_iff_ne.mpr c10
              obtain rfl := Option.some.inj H
              go_enter Try.func15, Try.ntmps15
              go_wp2_with (first | ((with_reducible refine gate_dst (N := 5) rfl ?_); refine Kd.R_lit (Kd.int .i64) _ 3 ?hg (N := 5) ?hd (xs := ([1, (-2)] : List Int)) (inner := [.int .i64 1, .int .i64 (-2)]) (ok := fun _ => True) (okp := fun _ => True) ?hr ?hp (fun _ hk => hk) trivial (Below.refl _ _) (Nat.le_refl _) (by simp) ?_; (case hd => rfl); (case hg => rfl); (case hr => first | (go_simp; done) | (go_simp; rfl)); (case hp => exact (Reps.one (show Kd.M (Kd.int .i64) _ _ _ 1 [.int .i64 1] from rfl) (Reps.one (show Kd.M (Kd.int .i64) _ _ _ (-2) [.int .i64 (-2)] from rfl) (Reps.none _ _)))); intro v105 w17 ho18 hb hg_ hnew_; clear hg_ hnew_; (first | rw [← Ny104.out] at ho18 | (simp only [Int.reduceToNat] at ho18; rw [← Ny104.out] at ho18)); have n0_ := Aside0.mk (Kd.R_lower ho18 (below_size (by repeat (first | (with_reducible first | exact HB.out | apply below_alloc | apply pw_below_drewN | apply below_drew1) | exact HB.out)))); have n1_ := Aside0.mk (below_step (by repeat (first | (with_reducible first | exact HB.out | apply below_alloc | apply pw_below_drewN | apply below_drew1) | exact HB.out)) hb); clear HB; have HO106 := n0_; have HB := n1_; clear n0_ n1_; clear hb ho18; obtain ⟨Ao19, co19, eo19⟩ := Kd.R_slice HO106.out; subst eo19) | ((with_reducible refine gate_callee (f := 11) rfl ?_); refine goesL_ (some 6) rfl rfl Try.func11 (by kernel_rfl) rfl #[.slice Ao19 y104.length co19, .int .i64 0, .int .i64 10] rfl (by (try simp only [List.map_toArray, List.map_cons, List.map_nil]); first | done | rfl | (simp only [List.length_drop, List.length_take]; rfl)) ?_; (with_reducible refine (fixed_Bounds.calls k _ _ y104 0 10 t107 t108 true _ ?side1 ?side2 A1.out).mono ?_); (case side1 => repeat (first | exact (Kd.R_reads' HO106.out).2.2 | (with_reducible refine Kd.C_alloc ?_ _) | (with_reducible refine Kd.C_drewN ?_ _) | (with_reducible refine Kd.C_drew ?_))); (case side2 => exact (Kd.R_reads' HO106.out).2.1); rintro e w20 ⟨rfl, hb⟩; refine ⟨_, rfl, ?_⟩; have n0_ := Aside0.mk (Kd.R_below (by (with_reducible repeat (first | apply Kd.R_alloc | apply Kd.R_drewN | apply Kd.R_drew)); exact HO106.out) hb); have n1_ := Aside0.mk (below_step (by repeat (first | (with_reducible first | exact HB.out | apply below_alloc | apply pw_below_drewN | apply below_drew1) | exact HB.out)) hb); clear HO106; clear HB; have HO106 := n0_; have HB := n1_; clear n0_ n1_; (try clear hb); (try clear hb2); (try clear hk); (try clear hi)) | ((with_reducible refine gate_callee (f := 20) rfl ?_); refine goesL_ (some 10) rfl rfl Try.func20 (by kernel_rfl) rfl #[.int .i64 5, .int .i64 1] rfl (by (try simp only [List.map_toArray, List.map_cons, List.map_nil]); first | done | rfl | (simp only [List.length_drop, List.length_take]; rfl)) ?_; (with_reducible refine (fixed_Shift.calls k 5 1 t110 _ A2.out).mono ?_); rintro e w' ⟨rfl, ⟨nd, rfl⟩⟩; refine ⟨_, rfl, ?_⟩) | (go_at_call 20; (with_reducible refine (fixed_Shift.calls k (-5) 1 t111 _ A4.out).mono ?_); rintro e w' ⟨rfl, ⟨nd, rfl⟩⟩) | (go_at_call 20; (with_reducible refine (fixed_Shift.calls k (-6) 2 t112 _ A6.out).mono ?_); rintro e w' ⟨rfl, ⟨nd, rfl⟩⟩))
              go_ret
              exact ⟨by first | rfl | (simp [errW_none, errW_some] <;> rfl) | (simp [*, errW_none, errW_some] <;> rfl), by repeat (first | (with_reducible first | exact HB.out | apply below_alloc | apply pw_below_drewN | apply below_drew1) | exact HB.out)⟩
          · rw [if_neg c9] at H
            have c9b0 : (t107 == (-20)) = false := beq_eq_false_iff_ne.mpr c9
            have c9b1 : (t107 != (-20)) = true := bne_iff_ne.mpr c9
            obtain rfl := Option.some.inj H
            go_enter Try.func15, Try.ntmps15
            go_wp2_with (first | ((with_reducible refine gate_dst (N := 5) rfl ?_); refine Kd.R_lit (Kd.int .i64) _ 3 ?hg (N := 5) ?hd (xs := ([1, (-2)] : List Int)) (inner := [.int .i64 1, .int .i64 (-2)]) (ok := fun _ => True) (okp := fun _ => True) ?hr ?hp (fun _ hk => hk) trivial (Below.refl _ _) (Nat.le_refl _) (by simp) ?_; (case hd => rfl); (case hg => rfl); (case hr => first | (go_simp; done) | (go_simp; rfl)); (case hp => exact (Reps.one (show Kd.M (Kd.int .i64) _ _ _ 1 [.int .i64 1] from rfl) (Reps.one (show Kd.M (Kd.int .i64) _ _ _ (-2) [.int .i64 (-2)] from rfl) (Reps.none _ _)))); intro v105 w21 ho22 hb hg_ hnew_; clear hg_ hnew_; (first | rw [← Ny104.out] at ho22 | (simp only [Int.reduceToNat] at ho22; rw [← Ny104.out] at ho22)); have n0_ := Aside0.mk (Kd.R_lower ho22 (below_size (by repeat (first | (with_reducible first | exact HB.out | apply below_alloc | apply pw_below_drewN | apply below_drew1) | exact HB.out)))); have n1_ := Aside0.mk (below_step (by repeat (first | (with_reducible first | exact HB.out | apply below_alloc | apply pw_below_drewN | apply below_drew1) | exact HB.out)) hb); clear HB; have HO106 := n0_; have HB := n1_; clear n0_ n1_; clear hb ho22; obtain ⟨Ao23, co23, eo23⟩ := Kd.R_slice HO106.out; subst eo23) | ((with_reducible refine gate_callee (f := 11) rfl ?_); refine goesL_ (some 6) rfl rfl Try.func11 (by kernel_rfl) rfl #[.slice Ao23 y104.length co23, .int .i64 0, .int .i64 10] rfl (by (try simp only [List.map_toArray, List.map_cons, List.map_nil]); first | done | rfl | (simp only [List.length_drop, List.length_take]; rfl)) ?_; (with_reducible refine (fixed_Bounds.calls k _ _ y104 0 10 t107 t108 true _ ?side1 ?side2 A1.out).mono ?_); (case side1 => repeat (first | exact (Kd.R_reads' HO106.out).2.2 | (with_reducible refine Kd.C_alloc ?_ _) | (with_reducible refine Kd.C_drewN ?_ _) | (with_reducible refine Kd.C_drew ?_))); (case side2 => exact (Kd.R_reads' HO106.out).2.1); rintro e w24 ⟨rfl, hb⟩; refine ⟨_, rfl, ?_⟩; have n0_ := Aside0.mk (Kd.R_below (by (with_reducible repeat (first | apply Kd.R_alloc | apply Kd.R_drewN | apply Kd.R_drew)); exact HO106.out) hb); have n1_ := Aside0.mk (below_step (by repeat (first | (with_reducible first | exact HB.out | apply below_alloc | apply pw_below_drewN | apply below_drew1) | exact HB.out)) hb); clear HO106; clear HB; have HO106 := n0_; have HB := n1_; clear n0_ n1_; (try clear hb); (try clear hb2); (try clear hk); (try clear hi)) | ((with_reducible refine gate_callee (f := 20) rfl ?_); refine goesL_ (some 10) rfl rfl Try.func20 (by kernel_rfl) rfl #[.int .i64 5, .int .i64 1] rfl (by (try simp only [List.map_toArray, List.map_cons, List.map_nil]); first | done | rfl | (simp only [List.length_drop, List.length_take]; rfl)) ?_; (with_reducible refine (fixed_Shift.calls k 5 1 t110 _ A2.out).mono ?_); rintro e w' ⟨rfl, ⟨nd, rfl⟩⟩; refine ⟨_, rfl, ?_⟩) | (go_at_call 20; (with_reducible refine (fixed_Shift.calls k (-5) 1 t111 _ A4.out).mono ?_); rintro e w' ⟨rfl, ⟨nd, rfl⟩⟩) | (go_at_call 20; (with_reducible refine (fixed_Shift.calls k (-6) 2 t112 _ A6.out).mono ?_); rintro e w' ⟨rfl, ⟨nd, rfl⟩⟩))
            go_ret
            exact ⟨by first | rfl | (simp [errW_none, errW_some] <;> rfl) | (simp [*, errW_none, errW_some] <;> rfl), by repeat (first | (with_reducible first | exact HB.out | apply below_alloc | apply pw_below_drewN | apply below_drew1) | exact HB.out)⟩
        · replace c8 := Bool.eq_false_iff.mpr c8
          subst c8
          have H1 : (some false) = some r := by rw [if_neg (show ¬ (false = true) by decide)] at H; exact H
          clear H
          have H := H1
          clear H1
          obtain rfl := Option.some.inj H
          go_enter Try.func15, Try.ntmps15
          go_wp2_with (first | ((with_reducible refine gate_dst (N := 5) rfl ?_); refine Kd.R_lit (Kd.int .i64) _ 3 ?hg (N := 5) ?hd (xs := ([1, (-2)] : List Int)) (inner := [.int .i64 1, .int .i64 (-2)]) (ok := fun _ => True) (okp := fun _ => True) ?hr ?hp (fun _ hk => hk) trivial (Below.refl _ _) (Nat.le_refl _) (by simp) ?_; (case hd => rfl); (case hg => rfl); (case hr => first | (go_simp; done) | (go_simp; rfl)); (case hp => exact (Reps.one (show Kd.M (Kd.int .i64) _ _ _ 1 [.int .i64 1] from rfl) (Reps.one (show Kd.M (Kd.int .i64) _ _ _ (-2) [.int .i64 (-2)] from rfl) (Reps.none _ _)))); intro v105 w25 ho26 hb hg_ hnew_; clear hg_ hnew_; (first | rw [← Ny104.out] at ho26 | (simp only [Int.reduceToNat] at ho26; rw [← Ny104.out] at ho26)); have n0_ := Aside0.mk (Kd.R_lower ho26 (below_size (by repeat (first | (with_reducible first | exact HB.out | apply below_alloc | apply pw_below_drewN | apply below_drew1) | exact HB.out)))); have n1_ := Aside0.mk (below_step (by repeat (first | (with_reducible first | exact HB.out | apply below_alloc | apply pw_below_drewN | apply below_drew1) | exact HB.out)) hb); clear HB; have HO106 := n0_; have HB := n1_; clear n0_ n1_; clear hb ho26; obtain ⟨Ao27, co27, eo27⟩ := Kd.R_slice HO106.out; subst eo27) | ((with_reducible refine gate_callee (f := 11) rfl ?_); refine goesL_ (some 6) rfl rfl Try.func11 (by kernel_rfl) rfl #[.slice Ao27 y104.length co27, .int .i64 0, .int .i64 10] rfl (by (try simp only [List.map_toArray, List.map_cons, List.map_nil]); first | done | rfl | (simp only [List.length_drop, List.length_take]; rfl)) ?_; (with_reducible refine (fixed_Bounds.calls k _ _ y104 0 10 t107 t108 false _ ?side1 ?side2 A1.out).mono ?_); (case side1 => repeat (first | exact (Kd.R_reads' HO106.out).2.2 | (with_reducible refine Kd.C_alloc ?_ _) | (with_reducible refine Kd.C_drewN ?_ _) | (with_reducible refine Kd.C_drew ?_))); (case side2 => exact (Kd.R_reads' HO106.out).2.1); rintro e w28 ⟨rfl, hb⟩; refine ⟨_, rfl, ?_⟩; have n0_ := Aside0.mk (Kd.R_below (by (with_reducible repeat (first | apply Kd.R_alloc | apply Kd.R_drewN | apply Kd.R_drew)); exact HO106.out) hb); have n1_ := Aside0.mk (below_step (by repeat (first | (with_reducible first | exact HB.out | apply below_alloc | apply pw_below_drewN | apply below_drew1) | exact HB.out)) hb); clear HO106; clear HB; have HO106 := n0_; have HB := n1_; clear n0_ n1_; (try clear hb); (try clear hb2); (try clear hk); (try clear hi)) | ((with_reducible refine gate_callee (f := 20) rfl ?_); refine goesL_ (some 10) rfl rfl Try.func20 (by kernel_rfl) rfl #[.int .i64 5, .int .i64 1] rfl (by (try simp only [List.map_toArray, List.map_cons, List.map_nil]); first | done | rfl | (simp only [List.length_drop, List.length_take]; rfl)) ?_; (with_reducible refine (fixed_Shift.calls k 5 1 t110 _ A2.out).mono ?_); rintro e w' ⟨rfl, ⟨nd, rfl⟩⟩; refine ⟨_, rfl, ?_⟩) | (go_at_call 20; (with_reducible refine (fixed_Shift.calls k (-5) 1 t111 _ A4.out).mono ?_); rintro e w' ⟨rfl, ⟨nd, rfl⟩⟩) | (go_at_call 20; (with_reducible refine (fixed_Shift.calls k (-6) 2 t112 _ A6.out).mono ?_); rintro e w' ⟨rfl, ⟨nd, rfl⟩⟩))
          go_ret
          exact ⟨by first | rfl | (simp [errW_none, errW_some] <;> rfl) | (simp [*, errW_none, errW_some] <;> rfl), by repeat (first | (with_reducible first | exact HB.out | apply below_alloc | apply pw_below_drewN | apply below_drew1) | exact HB.out)⟩
      · rw [if_neg c7] at H
        have c7b0 : (t112 == (-1)) = false := beq_eq_false_iff_ne.mpr c7
        have c7b1 : (t112 != (-1)) = true := bne_iff_ne.mpr c7
        obtain rfl := Option.some.inj H
        go_enter Try.func15, Try.ntmps15
        go_wp2_with (first | ((with_reducible refine gate_dst (N := 5) rfl ?_); refine Kd.R_lit (Kd.int .i64) _ 3 ?hg (N := 5) ?hd (xs := ([1, (-2)] : List Int)) (inner := [.int .i64 1, .int .i64 (-2)]) (ok := fun _ => True) (okp := fun _ => True) ?hr ?hp (fun _ hk => hk) trivial (Below.refl _ _) (Nat.le_refl _) (by simp) ?_; (case hd => rfl); (case hg => rfl); (case hr => first | (go_simp; done) | (go_simp; rfl)); (case hp => exact (Reps.one (show Kd.M (Kd.int .i64) _ _ _ 1 [.int .i64 1] from rfl) (Reps.one (show Kd.M (Kd.int .i64) _ _ _ (-2) [.int .i64 (-2)] from rfl) (Reps.none _ _)))); intro v105 w29 ho30 hb hg_ hnew_; clear hg_ hnew_; (first | rw [← Ny104.out] at ho30 | (simp only [Int.reduceToNat] at ho30; rw [← Ny104.out] at ho30)); have n0_ := Aside0.mk (Kd.R_lower ho30 (below_size (by repeat (first | (with_reducible first | exact HB.out | apply below_alloc | apply pw_below_drewN | apply below_drew1) | exact HB.out)))); have n1_ := Aside0.mk (below_step (by repeat (first | (with_reducible first | exact HB.out | apply below_alloc | apply pw_below_drewN | apply below_drew1) | exact HB.out)) hb); clear HB; have HO106 := n0_; have HB := n1_; clear n0_ n1_; clear hb ho30; obtain ⟨Ao31, co31, eo31⟩ := Kd.R_slice HO106.out; subst eo31) | ((with_reducible refine gate_callee (f := 11) rfl ?_); refine goesL_ (some 6) rfl rfl Try.func11 (by kernel_rfl) rfl #[.slice Ao31 y104.length co31, .int .i64 0, .int .i64 10] rfl (by (try simp only [List.map_toArray, List.map_cons, List.map_nil]); first | done | rfl | (simp only [List.length_drop, List.length_take]; rfl)) ?_; (with_reducible refine (fixed_Bounds.calls k _ _ y104 0 10 t107 t108 t109 _ ?side1 ?side2 A1.out).mono ?_); (case side1 => repeat (first | exact (Kd.R_reads' HO106.out).2.2 | (with_reducible refine Kd.C_alloc ?_ _) | (with_reducible refine Kd.C_drewN ?_ _) | (with_reducible refine Kd.C_drew ?_))); (case side2 => exact (Kd.R_reads' HO106.out).2.1); rintro e w32 ⟨rfl, hb⟩; refine ⟨_, rfl, ?_⟩; have n0_ := Aside0.mk (Kd.R_below (by (with_reducible repeat (first | apply Kd.R_alloc | apply Kd.R_drewN | apply Kd.R_drew)); exact HO106.out) hb); have n1_ := Aside0.mk (below_step (by repeat (first | (with_reducible first | exact HB.out | apply below_alloc | apply pw_below_drewN | apply below_drew1) | exact HB.out)) hb); clear HO106; clear HB; have HO106 := n0_; have HB := n1_; clear n0_ n1_; (try clear hb); (try clear hb2); (try clear hk); (try clear hi)) | ((with_reducible refine gate_callee (f := 20) rfl ?_); refine goesL_ (some 10) rfl rfl Try.func20 (by kernel_rfl) rfl #[.int .i64 5, .int .i64 1] rfl (by (try simp only [List.map_toArray, List.map_cons, List.map_nil]); first | done | rfl | (simp only [List.length_drop, List.length_take]; rfl)) ?_; (with_reducible refine (fixed_Shift.calls k 5 1 t110 _ A2.out).mono ?_); rintro e w' ⟨rfl, ⟨nd, rfl⟩⟩; refine ⟨_, rfl, ?_⟩) | (go_at_call 20; (with_reducible refine (fixed_Shift.calls k (-5) 1 t111 _ A4.out).mono ?_); rintro e w' ⟨rfl, ⟨nd, rfl⟩⟩) | (go_at_call 20; (with_reducible refine (fixed_Shift.calls k (-6) 2 t112 _ A6.out).mono ?_); rintro e w' ⟨rfl, ⟨nd, rfl⟩⟩))
        go_ret
        exact ⟨by first | rfl | (simp [errW_none, errW_some] <;> rfl) | (simp [*, errW_none, errW_some] <;> rfl), by repeat (first | (with_reducible first | exact HB.out | apply below_alloc | apply pw_below_drewN | apply below_drew1) | exact HB.out)⟩
    · rw [if_neg c5] at H
      have c5b0 : (t111 == (-2)) = false := beq_eq_false_iff_ne.mpr c5
      have c5b1 : (t111 != (-2)) = true := bne_iff_ne.mpr c5
      obtain rfl := Option.some.inj H
      go_enter Try.func15, Try.ntmps15
      go_wp2_with (first | ((with_reducible refine gate_dst (N := 5) rfl ?_); refine Kd.R_lit (Kd.int .i64) _ 3 ?hg (N := 5) ?hd (xs := ([1, (-2)] : List Int)) (inner := [.int .i64 1, .int .i64 (-2)]) (ok := fun _ => True) (okp := fun _ => True) ?hr ?hp (fun _ hk => hk) trivial (Below.refl _ _) (Nat.le_refl _) (by simp) ?_; (case hd => rfl); (case hg => rfl); (case hr => first | (go_simp; done) | (go_simp; rfl)); (case hp => exact (Reps.one (show Kd.M (Kd.int .i64) _ _ _ 1 [.int .i64 1] from rfl) (Reps.one (show Kd.M (Kd.int .i64) _ _ _ (-2) [.int .i64 (-2)] from rfl) (Reps.none _ _)))); intro v105 w33 ho34 hb hg_ hnew_; clear hg_ hnew_; (first | rw [← Ny104.out] at ho34 | (simp only [Int.reduceToNat] at ho34; rw [← Ny104.out] at ho34)); have n0_ := Aside0.mk (Kd.R_lower ho34 (below_size (by repeat (first | (with_reducible first | exact HB.out | apply below_alloc | apply pw_below_drewN | apply below_drew1) | exact HB.out)))); have n1_ := Aside0.mk (below_step (by repeat (first | (with_reducible first | exact HB.out | apply below_alloc | apply pw_below_drewN | apply below_drew1) | exact HB.out)) hb); clear HB; have HO106 := n0_; have HB := n1_; clear n0_ n1_; clear hb ho34; obtain ⟨Ao35, co35, eo35⟩ := Kd.R_slice HO106.out; subst eo35) | ((with_reducible refine gate_callee (f := 11) rfl ?_); refine goesL_ (some 6) rfl rfl Try.func11 (by kernel_rfl) rfl #[.slice Ao35 y104.length co35, .int .i64 0, .int .i64 10] rfl (by (try simp only [List.map_toArray, List.map_cons, List.map_nil]); first | done | rfl | (simp only [List.length_drop, List.length_take]; rfl)) ?_; (with_reducible refine (fixed_Bounds.calls k _ _ y104 0 10 t107 t108 t109 _ ?side1 ?side2 A1.out).mono ?_); (case side1 => repeat (first | exact (Kd.R_reads' HO106.out).2.2 | (with_reducible refine Kd.C_alloc ?_ _) | (with_reducible refine Kd.C_drewN ?_ _) | (with_reducible refine Kd.C_drew ?_))); (case side2 => exact (Kd.R_reads' HO106.out).2.1); rintro e w36 ⟨rfl, hb⟩; refine ⟨_, rfl, ?_⟩; have n0_ := Aside0.mk (Kd.R_below (by (with_reducible repeat (first | apply Kd.R_alloc | apply Kd.R_drewN | apply Kd.R_drew)); exact HO106.out) hb); have n1_ := Aside0.mk (below_step (by repeat (first | (with_reducible first | exact HB.out | apply below_alloc | apply pw_below_drewN | apply below_drew1) | exact HB.out)) hb); clear HO106; clear HB; have HO106 := n0_; have HB := n1_; clear n0_ n1_; (try clear hb); (try clear hb2); (try clear hk); (try clear hi)) | ((with_reducible refine gate_callee (f := 20) rfl ?_); refine goesL_ (some 10) rfl rfl Try.func20 (by kernel_rfl) rfl #[.int .i64 5, .int .i64 1] rfl (by (try simp only [List.map_toArray, List.map_cons, List.map_nil]); first | done | rfl | (simp only [List.length_drop, List.length_take]; rfl)) ?_; (with_reducible refine (fixed_Shift.calls k 5 1 t110 _ A2.out).mono ?_); rintro e w' ⟨rfl, ⟨nd, rfl⟩⟩; refine ⟨_, rfl, ?_⟩) | (go_at_call 20; (with_reducible refine (fixed_Shift.calls k (-5) 1 t111 _ A4.out).mono ?_); rintro e w' ⟨rfl, ⟨nd, rfl⟩⟩))
      go_ret
      exact ⟨by first | rfl | (simp [errW_none, errW_some] <;> rfl) | (simp [*, errW_none, errW_some] <;> rfl), by repeat (first | (with_reducible first | exact HB.out | apply below_alloc | apply pw_below_drewN | apply below_drew1) | exact HB.out)⟩
  · rw [if_neg c3] at H
    have c3b0 : (t110 == 3) = false := beq_eq_false_iff_ne.mpr c3
    have c3b1 : (t110 != 3) = true := bne_iff_ne.mpr c3
    obtain rfl := Option.some.inj H
    go_enter Try.func15, Try.ntmps15
    go_wp2_with (first | ((with_reducible refine gate_dst (N := 5) rfl ?_); refine Kd.R_lit (Kd.int .i64) _ 3 ?hg (N := 5) ?hd (xs := ([1, (-2)] : List Int)) (inner := [.int .i64 1, .int .i64 (-2)]) (ok := fun _ => True) (okp := fun _ => True) ?hr ?hp (fun _ hk => hk) trivial (Below.refl _ _) (Nat.le_refl _) (by simp) ?_; (case hd => rfl); (case hg => rfl); (case hr => first | (go_simp; done) | (go_simp; rfl)); (case hp => exact (Reps.one (show Kd.M (Kd.int .i64) _ _ _ 1 [.int .i64 1] from rfl) (Reps.one (show Kd.M (Kd.int .i64) _ _ _ (-2) [.int .i64 (-2)] from rfl) (Reps.none _ _)))); intro v105 w37 ho38 hb hg_ hnew_; clear hg_ hnew_; (first | rw [← Ny104.out] at ho38 | (simp only [Int.reduceToNat] at ho38; rw [← Ny104.out] at ho38)); have n0_ := Aside0.mk (Kd.R_lower ho38 (below_size (by repeat (first | (with_reducible first | exact HB.out | apply below_alloc | apply pw_below_drewN | apply below_drew1) | exact HB.out)))); have n1_ := Aside0.mk (below_step (by repeat (first | (with_reducible first | exact HB.out | apply below_alloc | apply pw_below_drewN | apply below_drew1) | exact HB.out)) hb); clear HB; have HO106 := n0_; have HB := n1_; clear n0_ n1_; clear hb ho38; obtain ⟨Ao39, co39, eo39⟩ := Kd.R_slice HO106.out; subst eo39) | ((with_reducible refine gate_callee (f := 11) rfl ?_); refine goesL_ (some 6) rfl rfl Try.func11 (by kernel_rfl) rfl #[.slice Ao39 y104.length co39, .int .i64 0, .int .i64 10] rfl (by (try simp only [List.map_toArray, List.map_cons, List.map_nil]); first | done | rfl | (simp only [List.length_drop, List.length_take]; rfl)) ?_; (with_reducible refine (fixed_Bounds.calls k _ _ y104 0 10 t107 t108 t109 _ ?side1 ?side2 A1.out).mono ?_); (case side1 => repeat (first | exact (Kd.R_reads' HO106.out).2.2 | (with_reducible refine Kd.C_alloc ?_ _) | (with_reducible refine Kd.C_drewN ?_ _) | (with_reducible refine Kd.C_drew ?_))); (case side2 => exact (Kd.R_reads' HO106.out).2.1); rintro e w40 ⟨rfl, hb⟩; refine ⟨_, rfl, ?_⟩; have n0_ := Aside0.mk (Kd.R_below (by (with_reducible repeat (first | apply Kd.R_alloc | apply Kd.R_drewN | apply Kd.R_drew)); exact HO106.out) hb); have n1_ := Aside0.mk (below_step (by repeat (first | (with_reducible first | exact HB.out | apply below_alloc | apply pw_below_drewN | apply below_drew1) | exact HB.out)) hb); clear HO106; clear HB; have HO106 := n0_; have HB := n1_; clear n0_ n1_; (try clear hb); (try clear hb2); (try clear hk); (try clear hi)) | ((with_reducible refine gate_callee (f := 20) rfl ?_); refine goesL_ (some 10) rfl rfl Try.func20 (by kernel_rfl) rfl #[.int .i64 5, .int .i64 1] rfl (by (try simp only [List.map_toArray, List.map_cons, List.map_nil]); first | done | rfl | (simp only [List.length_drop, List.length_take]; rfl)) ?_; (with_reducible refine (fixed_Shift.calls k 5 1 t110 _ A2.out).mono ?_); rintro e w' ⟨rfl, ⟨nd, rfl⟩⟩; refine ⟨_, rfl, ?_⟩))
    go_ret
    exact ⟨by first | rfl | (simp [errW_none, errW_some] <;> rfl) | (simp [*, errW_none, errW_some] <;> rfl), by repeat (first | (with_reducible first | exact HB.out | apply below_alloc | apply pw_below_drewN | apply below_drew1) | exact HB.out)⟩

/-! ### tilefarmgen_Mod: function 16 -/
def tilefarmgen_Mod.f (a0 : Int) (a1 : Int) : Option (Int) := if a1 = 0 then (none) else (if (Int.tmod a0 a1) < 0 then (some (wrap64 ((Int.tmod a0 a1) + a1))) else (some (Int.tmod a0 a1)))
set_option maxHeartbeats 8000000 in
set_option maxRecDepth 100000 in
theorem tilefarmgen_Mod.calls (a0 : Int) (a1 : Int) (r : Int) (w : World) (h : tilefarmgen_Mod.f a0 a1 = some r) :
    Calls Try.prog 16 #[.int .i64 a0, .int .i64 a1] w fun e w' => e = .returned (.int .i64 r) ∧ Drawn0 w w' := by
  have H : (if a1 = 0 then (none) else (if (Int.tmod a0 a1) < 0 then (some (wrap64 ((Int.tmod a0 a1) + a1))) else (some (Int.tmod a0 a1)))) = some r := h
  clear h
  by_cases c3 : a1 = 0
  · rw [if_pos c3] at H
    exact absurd H (by simp)
  · rw [if_neg c3] at H
    have c3b0 : (a1 == 0) = false := beq_eq_false_iff_ne.mpr c3
    have c3b1 : (a1 != 0) = true := bne_iff_ne.mpr c3
    by_cases c4 : (Int.tmod a0 a1) < 0
    · rw [if_pos c4] at H
      have c4b0 : decide ((Int.tmod a0 a1) < 0) = true := decide_eq_true c4
      clear c4
      obtain rfl := Option.some.inj H
      go_enter Try.func16, Try.ntmps16
      go_wp2
      go_ret
      exact ⟨by first | rfl | (simp; done) | (simp [*]; done), by repeat (first | exact Drawn0.refl _ | apply Drawn0.step)⟩
    · rw [if_neg c4] at H
      have c4b0 : decide ((Int.tmod a0 a1) < 0) = false := decide_eq_false c4
      clear c4
      obtain rfl := Option.some.inj H
      go_enter Try.func16, Try.ntmps16
      go_wp2
      go_ret
      exact ⟨by first | rfl | (simp; done) | (simp [*]; done), by repeat (first | exact Drawn0.refl _ | apply Drawn0.step)⟩

/-! ### tilefarmlaw7_FixedClamps: function 5 -/
def tilefarmlaw7_FixedClamps.j0 : Nat → Int → Int → Int → Int → Option (Bool)
  | 0, _, _, _, _ => none
  | k + 1, x7, x9, x11, x12 => if x12 < 0 then (if x9 ≥ 0 then (if x9 ≤ x7 then (if x11 ≤ (wrap64 (-x12)) then ((fixed_Clamp.f x9 x7).bind fun t118 => (if t118 = x9 then ((tilefarmlaw7_sane.f k).bind fun t119 => (some t119)) else (some false))) else (some false)) else (some false)) else (some false)) else (if x9 ≥ 0 then (if x9 ≤ x7 then (if x11 ≤ x12 then ((fixed_Clamp.f x9 x7).bind fun t120 => (if t120 = x9 then ((tilefarmlaw7_sane.f k).bind fun t121 => (some t121)) else (some false))) else (some false)) else (some false)) else (some false))
def tilefarmlaw7_FixedClamps.f (k : Nat) (a0 : Int) (a1 : Int) (a2 : Int) : Option (Bool) := (tilefarmgen_Mod.f a1 1099511627776).bind fun t114 => ((tilefarmgen_Mod.f a0 4398046511104).bind fun t115 => ((fixed_Clamp.f (wrap64 (t115 - 2199023255552)) t114).bind fun t116 => ((tilefarmgen_Mod.f a2 (wrap64 (t114 + 1))).bind fun t117 => (if (wrap64 ((wrap64 (t115 - 2199023255552)) - t116)) < 0 then (tilefarmlaw7_FixedClamps.j0 k t114 t116 (wrap64 (-(wrap64 ((wrap64 (t115 - 2199023255552)) - t116)))) (wrap64 ((wrap64 (t115 - 2199023255552)) - t117))) else (tilefarmlaw7_FixedClamps.j0 k t114 t116 (wrap64 ((wrap64 (t115 - 2199023255552)) - t116)) (wrap64 ((wrap64 (t115 - 2199023255552)) - t117)))))))
theorem tilefarmlaw7_FixedClamps.mono_l : ∀ k, (∀ y0 y1 y2 y3, LeO (tilefarmlaw7_FixedClamps.j0 k y0 y1 y2 y3) (tilefarmlaw7_FixedClamps.j0 (k + 1) y0 y1 y2 y3))
  | 0 => fun _ _ _ _ r h => by simp [tilefarmlaw7_FixedClamps.j0] at h
  | k + 1 => by
    have ih0 := tilefarmlaw7_FixedClamps.mono_l k
    · intro y0 y1 y2 y3
      unfold tilefarmlaw7_FixedClamps.j0
      repeat' first
      | (with_reducible exact ih0 _ _ _ _)
      | (with_reducible exact tilefarmlaw7_sane.mono _)
      | (with_reducible exact LeO.refl _)
      | (with_reducible exact LeO.none _)
      | (with_reducible refine LeO.ite ?_ ?_)
      | (with_reducible refine LeO.bind ?_ (fun _ => ?_))
      | exact ih0 _ _ _ _
      | exact tilefarmlaw7_sane.mono _
      | exact LeO.none _
      | refine LeO.ite ?_ ?_
      | refine LeO.bind ?_ (fun _ => ?_)
theorem tilefarmlaw7_FixedClamps.mono : ∀ a0 a1 a2 k, LeO (tilefarmlaw7_FixedClamps.f k a0 a1 a2) (tilefarmlaw7_FixedClamps.f (k + 1) a0 a1 a2) := by
  intro a0 a1 a2 k
  have ih0 := tilefarmlaw7_FixedClamps.mono_l k
  unfold tilefarmlaw7_FixedClamps.f
  repeat' first
      | (with_reducible exact ih0 _ _ _ _)
      | (with_reducible exact tilefarmlaw7_sane.mono _)
      | (with_reducible exact LeO.refl _)
      | (with_reducible exact LeO.none _)
      | (with_reducible refine LeO.ite ?_ ?_)
      | (with_reducible refine LeO.bind ?_ (fun _ => ?_))
      | exact ih0 _ _ _ _
      | exact tilefarmlaw7_sane.mono _
      | exact LeO.none _
      | refine LeO.ite ?_ ?_
      | refine LeO.bind ?_ (fun _ => ?_)
set_option maxHeartbeats 8000000 in
set_option maxRecDepth 100000 in
theorem tilefarmlaw7_FixedClamps.calls (k : Nat) (a0 : Int) (a1 : Int) (a2 : Int) (r : Bool) (w : World) (h : tilefarmlaw7_FixedClamps.f k a0 a1 a2 = some r) (hT : r = true := by first | rfl | assumption) :
    Calls Try.prog 5 #[.int .i64 a0, .int .i64 a1, .int .i64 a2] w fun e w' => e = .returned (.bool r) ∧ Below w.heap.size w w' := by
  have HT := Aside0.mk hT
  clear hT
  have HB := Aside0.mk (Below.refl w.heap.size w)
  have H : ((tilefarmgen_Mod.f a1 1099511627776).bind fun t114 => ((tilefarmgen_Mod.f a0 4398046511104).bind fun t115 => ((fixed_Clamp.f (wrap64 (t115 - 2199023255552)) t114).bind fun t116 => ((tilefarmgen_Mod.f a2 (wrap64 (t114 + 1))).bind fun t117 => (if (wrap64 ((wrap64 (t115 - 2199023255552)) - t116)) < 0 then (tilefarmlaw7_FixedClamps.j0 k t114 t116 (wrap64 (-(wrap64 ((wrap64 (t115 - 2199023255552)) - t116)))) (wrap64 ((wrap64 (t115 - 2199023255552)) - t117))) else (tilefarmlaw7_FixedClamps.j0 k t114 t116 (wrap64 ((wrap64 (t115 - 2199023255552)) - t116)) (wrap64 ((wrap64 (t115 - 2199023255552)) - t117)))))))) = some r := h
  clear h
  replace H := Option.bind_eq_some_iff.mp H
  obtain ⟨t114, A40, H⟩ := H
  replace H : ((tilefarmgen_Mod.f a0 4398046511104).bind fun t115 => ((fixed_Clamp.f (wrap64 (t115 - 2199023255552)) t114).bind fun t116 => ((tilefarmgen_Mod.f a2 (wrap64 (t114 + 1))).bind fun t117 => (if (wrap64 ((wrap64 (t115 - 2199023255552)) - t116)) < 0 then (tilefarmlaw7_FixedClamps.j0 k t114 t116 (wrap64 (-(wrap64 ((wrap64 (t115 - 2199023255552)) - t116)))) (wrap64 ((wrap64 (t115 - 2199023255552)) - t117))) else (tilefarmlaw7_FixedClamps.j0 k t114 t116 (wrap64 ((wrap64 (t115 - 2199023255552)) - t116)) (wrap64 ((wrap64 (t115 - 2199023255552)) - t117))))))) = some r := H
  have A4 := Aside0.mk A40
  clear A40
  replace H := Option.bind_eq_some_iff.mp H
  obtain ⟨t115, A50, H⟩ := H
  replace H : ((fixed_Clamp.f (wrap64 (t115 - 2199023255552)) t114).bind fun t116 => ((tilefarmgen_Mod.f a2 (wrap64 (t114 + 1))).bind fun t117 => (if (wrap64 ((wrap64 (t115 - 2199023255552)) - t116)) < 0 then (tilefarmlaw7_FixedClamps.j0 k t114 t116 (wrap64 (-(wrap64 ((wrap64 (t115 - 2199023255552)) - t116)))) (wrap64 ((wrap64 (t115 - 2199023255552)) - t117))) else (tilefarmlaw7_FixedClamps.j0 k t114 t116 (wrap64 ((wrap64 (t115 - 2199023255552)) - t116)) (wrap64 ((wrap64 (t115 - 2199023255552)) - t117)))))) = some r := H
  have A5 := Aside0.mk A50
  clear A50
  replace H := Option.bind_eq_some_iff.mp H
  obtain ⟨t116, A60, H⟩ := H
  replace H : ((tilefarmgen_Mod.f a2 (wrap64 (t114 + 1))).bind fun t117 => (if (wrap64 ((wrap64 (t115 - 2199023255552)) - t116)) < 0 then (tilefarmlaw7_FixedClamps.j0 k t114 t116 (wrap64 (-(wrap64 ((wrap64 (t115 - 2199023255552)) - t116)))) (wrap64 ((wrap64 (t115 - 2199023255552)) - t117))) else (tilefarmlaw7_FixedClamps.j0 k t114 t116 (wrap64 ((wrap64 (t115 - 2199023255552)) - t116)) (wrap64 ((wrap64 (t115 - 2199023255552)) - t117))))) = some r := H
  have A6 := Aside0.mk A60
  clear A60
  replace H := Option.bind_eq_some_iff.mp H
  obtain ⟨t117, A70, H⟩ := H
  replace H : (if (wrap64 ((wrap64 (t115 - 2199023255552)) - t116)) < 0 then (tilefarmlaw7_FixedClamps.j0 k t114 t116 (wrap64 (-(wrap64 ((wrap64 (t115 - 2199023255552)) - t116)))) (wrap64 ((wrap64 (t115 - 2199023255552)) - t117))) else (tilefarmlaw7_FixedClamps.j0 k t114 t116 (wrap64 ((wrap64 (t115 - 2199023255552)) - t116)) (wrap64 ((wrap64 (t115 - 2199023255552)) - t117)))) = some r := H
  have A7 := Aside0.mk A70
  clear A70
  have HC8 := Aside0.mk H
  clear H
  go_enter Try.func5, Try.ntmps5
  go_upto_if 32 with (first | ((with_reducible refine gate_callee (f := 16) rfl ?_); refine goesL_ (some 14) rfl rfl Try.func16 (by kernel_rfl) rfl #[.int .i64 a1, .int .i64 1099511627776] rfl (by (try simp only [List.map_toArray, List.map_cons, List.map_nil]); first | done | rfl | (simp only [List.length_drop, List.length_take]; rfl)) ?_; (with_reducible refine (tilefarmgen_Mod.calls a1 1099511627776 t114 _ A4.out).mono ?_); rintro e w' ⟨rfl, ⟨nd, rfl⟩⟩; refine ⟨_, rfl, ?_⟩) | ((with_reducible refine gate_callee (f := 16) rfl ?_); refine goesL_ (some 16) rfl rfl Try.func16 (by kernel_rfl) rfl #[.int .i64 a0, .int .i64 4398046511104] rfl (by (try simp only [List.map_toArray, List.map_cons, List.map_nil]); first | done | rfl | (simp only [List.length_drop, List.length_take]; rfl)) ?_; (with_reducible refine (tilefarmgen_Mod.calls a0 4398046511104 t115 _ A5.out).mono ?_); rintro e w' ⟨rfl, ⟨nd, rfl⟩⟩; refine ⟨_, rfl, ?_⟩) | ((with_reducible refine gate_callee (f := 17) rfl ?_); refine goesL_ (some 20) rfl rfl Try.func17 (by kernel_rfl) rfl #[.int .i64 (wrap64 (t115 - 2199023255552)), .int .i64 t114] rfl (by (try simp only [List.map_toArray, List.map_cons, List.map_nil]); first | done | rfl | (simp only [List.length_drop, List.length_take]; rfl)) ?_; (with_reducible refine (fixed_Clamp.calls (wrap64 (t115 - 2199023255552)) t114 t116 _ A6.out).mono ?_); rintro e w9 ⟨rfl, hb⟩; refine ⟨_, rfl, ?_⟩; have n0_ := Aside0.mk (below_step (by repeat (first | (with_reducible first | exact HB.out | apply below_alloc | apply pw_below_drewN | apply below_drew1) | exact HB.out)) hb); clear HB; have HB := n0_; clear n0_; (try clear hb); (try clear hb2); (try clear hk); (try clear hi)) | ((with_reducible refine gate_callee (f := 16) rfl ?_); refine goesL_ (some 24) rfl rfl Try.func16 (by kernel_rfl) rfl #[.int .i64 a2, .int .i64 (wrap64 (t114 + 1))] rfl (by (try simp only [List.map_toArray, List.map_cons, List.map_nil]); first | done | rfl | (simp only [List.length_drop, List.length_take]; rfl)) ?_; (with_reducible refine (tilefarmgen_Mod.calls a2 (wrap64 (t114 + 1)) t117 _ A7.out).mono ?_); rintro e w' ⟨rfl, ⟨nd, rfl⟩⟩; refine ⟨_, rfl, ?_⟩))
  (try simp only [Act.put, List.setIfInBounds_toArray, List.set_cons_zero, List.set_cons_succ])
  go_cut [11] (fun v11 wc => ∃ (kq : Nat) (x11_7 : Int), v11 = .int .i64 x11_7 ∧ Aside0 (tilefarmlaw7_FixedClamps.j0 kq t114 t116 x11_7 (wrap64 ((wrap64 (t115 - 2199023255552)) - t117)) = some r) ∧ Aside0 (kq ≤ k) ∧ Aside0 (Below w.heap.size w wc))
  case first =>
    have H := HC8.out
    clear HC8
    by_cases c10 : (wrap64 ((wrap64 (t115 - 2199023255552)) - t116)) < 0
    · rw [if_pos c10] at H
      have c10b0 : decide ((wrap64 ((wrap64 (t115 - 2199023255552)) - t116)) < 0) = true := decide_eq_true c10
      clear c10
      (first | rw [c10b0] | (simp only [i64_w, i32_w]; rw [c10b0]) | skip)
      have H' := Aside0.mk H
      clear H
      go_wp2
      go_meet
      case rel => exact ⟨_, (wrap64 (-(wrap64 ((wrap64 (t115 - 2199023255552)) - t116)))), (by first | rfl | (simp; done) | (simp [*]; done)), H', ⟨by first | omega | exact Nat.le_refl _⟩, ⟨by repeat (first | (with_reducible first | exact HB.out | apply below_alloc | apply pw_below_drewN | apply below_drew1) | exact HB.out)⟩⟩
    · rw [if_neg c10] at H
      have c10b0 : decide ((wrap64 ((wrap64 (t115 - 2199023255552)) - t116)) < 0) = false := decide_eq_false c10
      clear c10
      (first | rw [c10b0] | (simp only [i64_w, i32_w]; rw [c10b0]) | skip)
      have H' := Aside0.mk H
      clear H
      go_wp2
      go_meet
      case rel => exact ⟨_, (wrap64 ((wrap64 (t115 - 2199023255552)) - t116)), (by first | rfl | (simp; done) | (simp [*]; done)), H', ⟨by first | omega | exact Nat.le_refl _⟩, ⟨by repeat (first | (with_reducible first | exact HB.out | apply below_alloc | apply pw_below_drewN | apply below_drew1) | exact HB.out)⟩⟩
  case rest =>
    clear HC8
    try clear c1
    try clear p2
    try clear c5
    try clear p6
    try clear c10
    try clear c10b0
    obtain ⟨kq, x11_7, rfl, HA, HJ7, HB⟩ := hcut
    cases kq with
    | zero => exact absurd HA.out (by simp [tilefarmlaw7_FixedClamps.j0])
    | succ kj7 =>
      have H := HA.out
      clear HA
      simp only [tilefarmlaw7_FixedClamps.j0] at H
      by_cases c11 : (wrap64 ((wrap64 (t115 - 2199023255552)) - t117)) < 0
      · rw [if_pos c11] at H
        have c11b0 : decide ((wrap64 ((wrap64 (t115 - 2199023255552)) - t117)) < 0) = true := decide_eq_true c11
        clear c11
        by_cases c12 : t116 ≥ 0
        · rw [if_pos c12] at H
          have c12b0 : decide (0 ≤ t116) = true := decide_eq_true c12
          clear c12
          by_cases c13 : t116 ≤ t114
          · rw [if_pos c13] at H
            have c13b0 : decide (t116 ≤ t114) = true := decide_eq_true c13
            clear c13
            by_cases c14 : x11_7 ≤ (wrap64 (-(wrap64 ((wrap64 (t115 - 2199023255552)) - t117))))
            · rw [if_pos c14] at H
              have c14b0 : decide (x11_7 ≤ (wrap64 (-(wrap64 ((wrap64 (t115 - 2199023255552)) - t117))))) = true := decide_eq_true c14
              clear c14
              replace H := Option.bind_eq_some_iff.mp H
              obtain ⟨t118, A150, H⟩ := H
              replace H : (if t118 = t116 then ((tilefarmlaw7_sane.f kj7).bind fun t119 => (some t119)) else (some false)) = some r := H
              have A15 := Aside0.mk A150
              clear A150
              by_cases c16 : t118 = t116
              · rw [if_pos c16] at H
                have c16b0 : (t118 == t116) = true := beq_iff_eq.mpr c16
                have c16b1 : (t118 != t116) = false := bne_eq_false_iff_eq.mpr c16
                clear c16
                replace H := Option.bind_eq_some_iff.mp H
                obtain ⟨t119, A170, H⟩ := H
                replace H : (some t119) = some r := H
                have A17 := Aside0.mk A170
                clear A170
                obtain rfl := Option.some.inj H
                go_wp2_with (first | (go_at_call 17; (with_reducible refine (fixed_Clamp.calls t116 t114 t118 _ A15.out).mono ?_); rintro e w18 ⟨rfl, hb⟩; have n0_ := Aside0.mk (below_step (by repeat (first | (with_reducible first | exact HB.out | apply below_alloc | apply pw_below_drewN | apply below_drew1) | exact HB.out)) hb); clear HB; have HB := n0_; clear n0_; (try clear hb); (try clear hb2); (try clear hk); (try clear hi)) | (go_at_call 15; (with_reducible refine (tilefarmlaw7_sane.calls kj7  t119 _ A17.out).mono ?_); rintro e w19 ⟨rfl, hb⟩; have n0_ := Aside0.mk (below_step (by repeat (first | (with_reducible first | exact HB.out | apply below_alloc | apply pw_below_drewN | apply below_drew1) | exact HB.out)) hb); clear HB; have HB := n0_; clear n0_; (try clear hb); (try clear hb2); (try clear hk); (try clear hi)))
                go_ret
                exact ⟨by first | rfl | (simp [errW_none, errW_some] <;> rfl) | (simp [*, errW_none, errW_some] <;> rfl), by repeat (first | (with_reducible first | exact HB.out | apply below_alloc | apply pw_below_drewN | apply below_drew1) | exact HB.out)⟩
              · rw [if_neg c16] at H
                have c16b0 : (t118 == t116) = false := beq_eq_false_iff_ne.mpr c16
                have c16b1 : (t118 != t116) = true := bne_iff_ne.mpr c16
                exact absurd ((Option.some.inj H).trans HT.out) (by decide)
            · rw [if_neg c14] at H
              have c14b0 : decide (x11_7 ≤ (wrap64 (-(wrap64 ((wrap64 (t115 - 2199023255552)) - t117))))) = false := decide_eq_false c14
              clear c14
              exact absurd ((Option.some.inj H).trans HT.out) (by decide)
          · rw [if_neg c13] at H
            have c13b0 : decide (t116 ≤ t114) = false := decide_eq_false c13
            clear c13
            exact absurd ((Option.some.inj H).trans HT.out) (by decide)
        · rw [if_neg c12] at H
          have c12b0 : decide (0 ≤ t116) = false := decide_eq_false c12
          clear c12
          exact absurd ((Option.some.inj H).trans HT.out) (by decide)
      · rw [if_neg c11] at H
        have c11b0 : decide ((wrap64 ((wrap64 (t115 - 2199023255552)) - t117)) < 0) = false := decide_eq_false c11
        clear c11
        by_cases c20 : t116 ≥ 0
        · rw [if_pos c20] at H
          have c20b0 : decide (0 ≤ t116) = true := decide_eq_true c20
          clear c20
          by_cases c21 : t116 ≤ t114
          · rw [if_pos c21] at H
            have c21b0 : decide (t116 ≤ t114) = true := decide_eq_true c21
            clear c21
            by_cases c22 : x11_7 ≤ (wrap64 ((wrap64 (t115 - 2199023255552)) - t117))
            · rw [if_pos c22] at H
              have c22b0 : decide (x11_7 ≤ (wrap64 ((wrap64 (t115 - 2199023255552)) - t117))) = true := decide_eq_true c22
              clear c22
              replace H := Option.bind_eq_some_iff.mp H
              obtain ⟨t120, A230, H⟩ := H
              replace H : (if t120 = t116 then ((tilefarmlaw7_sane.f kj7).bind fun t121 => (some t121)) else (some false)) = some r := H
              have A23 := Aside0.mk A230
              clear A230
              by_cases c24 : t120 = t116
              · rw [if_pos c24] at H
                have c24b0 : (t120 == t116) = true := beq_iff_eq.mpr c24
                have c24b1 : (t120 != t116) = false := bne_eq_false_iff_eq.mpr c24
                clear c24
                replace H := Option.bind_eq_some_iff.mp H
                obtain ⟨t121, A250, H⟩ := H
                replace H : (some t121) = some r := H
                have A25 := Aside0.mk A250
                clear A250
                obtain rfl := Option.some.inj H
                go_wp2_with (first | (go_at_call 17; (with_reducible refine (fixed_Clamp.calls t116 t114 t120 _ A23.out).mono ?_); rintro e w26 ⟨rfl, hb⟩; have n0_ := Aside0.mk (below_step (by repeat (first | (with_reducible first | exact HB.out | apply below_alloc | apply pw_below_drewN | apply below_drew1) | exact HB.out)) hb); clear HB; have HB := n0_; clear n0_; (try clear hb); (try clear hb2); (try clear hk); (try clear hi)) | (go_at_call 15; (with_reducible refine (tilefarmlaw7_sane.calls kj7  t121 _ A25.out).mono ?_); rintro e w27 ⟨rfl, hb⟩; have n0_ := Aside0.mk (below_step (by repeat (first | (with_reducible first | exact HB.out | apply below_alloc | apply pw_below_drewN | apply below_drew1) | exact HB.out)) hb); clear HB; have HB := n0_; clear n0_; (try clear hb); (try clear hb2); (try clear hk); (try clear hi)))
                go_ret
                exact ⟨by first | rfl | (simp [errW_none, errW_some] <;> rfl) | (simp [*, errW_none, errW_some] <;> rfl), by repeat (first | (with_reducible first | exact HB.out | apply below_alloc | apply pw_below_drewN | apply below_drew1) | exact HB.out)⟩
              · rw [if_neg c24] at H
                have c24b0 : (t120 == t116) = false := beq_eq_false_iff_ne.mpr c24
                have c24b1 : (t120 != t116) = true := bne_iff_ne.mpr c24
                exact absurd ((Option.some.inj H).trans HT.out) (by decide)
            · rw [if_neg c22] at H
              have c22b0 : decide (x11_7 ≤ (wrap64 ((wrap64 (t115 - 2199023255552)) - t117))) = false := decide_eq_false c22
              clear c22
              exact absurd ((Option.some.inj H).trans HT.out) (by decide)
          · rw [if_neg c21] at H
            have c21b0 : decide (t116 ≤ t114) = false := decide_eq_false c21
            clear c21
            exact absurd ((Option.some.inj H).trans HT.out) (by decide)
        · rw [if_neg c20] at H
          have c20b0 : decide (0 ≤ t116) = false := decide_eq_false c20
          clear c20
          exact absurd ((Option.some.inj H).trans HT.out) (by decide)

/-- THE ONE PURE STATEMENT of tilefarmlaw7_FixedClamps: yours. -/
def tilefarmlaw7_FixedClamps.Pure : Prop := ∀ (a0 : Int) (a1 : Int) (a2 : Int), (Lit.int .i64 a0).wf = true → (Lit.int .i64 a1).wf = true → (Lit.int .i64 a2).wf = true → ∃ k, tilefarmlaw7_FixedClamps.f k a0 a1 a2 = some true
theorem tilefarmlaw7_FixedClamps.walk (P : tilefarmlaw7_FixedClamps.Pure) (a0 : Int) (a1 : Int) (a2 : Int) (w : World) (w0 : (Lit.int .i64 a0).wf = true) (w1 : (Lit.int .i64 a1).wf = true) (w2 : (Lit.int .i64 a2).wf = true) :
    Calls Try.prog 5 #[.int .i64 a0, .int .i64 a1, .int .i64 a2] w fun e w' => e = .returned (.bool true) ∧ Below w.heap.size w w' := by
  obtain ⟨k, h⟩ := P a0 a1 a2 w0 w1 w2
  refine (tilefarmlaw7_FixedClamps.calls k a0 a1 a2 true w h).mono ?_
  rintro e w' ⟨rfl, hd⟩
  exact ⟨rfl, hd⟩

end Go.Proofs.Ytepbjipmfchpnaa.PFixedClamps
