-- Written by a program of the session (wip/tools/myprint.py) over the kit's printer; checked by Lean.
import Derived.Test.YtoamkepelnphaaaPIeeeQuantizesx0
import Derived.Test.YtoamkepelnphaaaPIeeeQuantizesx1
import Derived.Test.YtoamkepelnphaaaPIeeeQuantizesx3
import Derived.Test.YtoamkepelnphaaaPIeeeQuantizesx4
import Derived.Test.YtoamkepelnphaaaPIeeeQuantizesx6
namespace Go.Proofs.Ytoamkepelnphaaa.PIeeeQuantizes
open Go.RowKit Go.Proofs.YtoamkepelnphaaaW.PrintWords Go.Proofs.YtoamkepelnphaaaW.PrintLast Go.Proofs.YtoamkepelnphaaaW.PrintMore
attribute [local go_sem] max2_int min2_int max_two min_two max_three min_three max_four min_four   -- for this text's walks alone
set_option linter.unusedVariables false
set_option linter.unusedSimpArgs false

/-! ### tilefarmlaw6_IeeeQuantizes: function 4 -/
def tilefarmlaw6_IeeeQuantizes.l0 : Nat → List Int → Int → Int → List Int → Int → Option (Bool)
  | 0, _, _, _, _, _ => none
  | k + 1, x1, x2, x8, x220000, x220001 => if x8 < 6 then ((tilefarmgen_Tape_Third.f x220000 x220001).bind fun bt220 => ((tilefarmgen_Tape_Next.f x220000 bt220.2 26).bind fun bt224 => (if x8 = 5 then ((ieee_Quantize.f k x1 x2).bind fun bt226 => ((tilefarmref6_Quantize.f k x1 x2).bind fun bt230 => ((tilefarmref4_Same.f k bt226.1 bt230.1).bind fun t234 => (if t234 = true then (if bt226.2 = bt230.2 then (tilefarmlaw6_IeeeQuantizes.l0 k x1 x2 (wrap64 (x8 + 1)) x220000 bt224.2) else (some false)) else (some false))))) else ((ieee_Quantize.f k bt220.1 (wrap64 (bt224.1 - 1))).bind fun bt235 => ((tilefarmref6_Quantize.f k bt220.1 (wrap64 (bt224.1 - 1))).bind fun bt239 => ((tilefarmref4_Same.f k bt235.1 bt239.1).bind fun t243 => (if t243 = true then (if bt235.2 = bt239.2 then (tilefarmlaw6_IeeeQuantizes.l0 k x1 x2 (wrap64 (x8 + 1)) x220000 bt224.2) else (some false)) else (some false)))))))) else ((tilefarmlaw6_sane.f k).bind fun t244 => (some t244))
def tilefarmlaw6_IeeeQuantizes.f (k : Nat) (l0 : List Int) (l1 : List Int) (a2 : Int) : Option (Bool) := (tilefarmgen_New.f l0).bind fun bt217 => (tilefarmlaw6_IeeeQuantizes.l0 k l1 a2 0 bt217.1 bt217.2)
theorem tilefarmlaw6_IeeeQuantizes.mono_l : ∀ k, (∀ y0 y1 y2 y3 y4, LeO (tilefarmlaw6_IeeeQuantizes.l0 k y0 y1 y2 y3 y4) (tilefarmlaw6_IeeeQuantizes.l0 (k + 1) y0 y1 y2 y3 y4))
  | 0 => fun _ _ _ _ _ r h => by simp [tilefarmlaw6_IeeeQuantizes.l0] at h
  | k + 1 => by
    have ih0 := tilefarmlaw6_IeeeQuantizes.mono_l k
    · intro y0 y1 y2 y3 y4
      unfold tilefarmlaw6_IeeeQuantizes.l0
      repeat' first
      | (with_reducible exact ih0 _ _ _ _ _)
      | (with_reducible exact ieee_Quantize.mono _ _ _)
      | (with_reducible exact tilefarmlaw6_sane.mono _)
      | (with_reducible exact tilefarmref4_Same.mono _ _ _)
      | (with_reducible exact tilefarmref6_Quantize.mono _ _ _)
      | (with_reducible exact LeO.refl _)
      | (with_reducible exact LeO.none _)
      | (with_reducible refine LeO.ite ?_ ?_)
      | (with_reducible refine LeO.bind ?_ (fun _ => ?_))
      | exact ih0 _ _ _ _ _
      | exact ieee_Quantize.mono _ _ _
      | exact tilefarmlaw6_sane.mono _
      | exact tilefarmref4_Same.mono _ _ _
      | exact tilefarmref6_Quantize.mono _ _ _
      | exact LeO.none _
      | refine LeO.ite ?_ ?_
      | refine LeO.bind ?_ (fun _ => ?_)
theorem tilefarmlaw6_IeeeQuantizes.mono : ∀ a0 a1 a2 k, LeO (tilefarmlaw6_IeeeQuantizes.f k a0 a1 a2) (tilefarmlaw6_IeeeQuantizes.f (k + 1) a0 a1 a2) := by
  intro a0 a1 a2 k
  have ih0 := tilefarmlaw6_IeeeQuantizes.mono_l k
  unfold tilefarmlaw6_IeeeQuantizes.f
  repeat' first
      | (with_reducible exact ih0 _ _ _ _ _)
      | (with_reducible exact ieee_Quantize.mono _ _ _)
      | (with_reducible exact tilefarmlaw6_sane.mono _)
      | (with_reducible exact tilefarmref4_Same.mono _ _ _)
      | (with_reducible exact tilefarmref6_Quantize.mono _ _ _)
      | (with_reducible exact LeO.refl _)
      | (with_reducible exact LeO.none _)
      | (with_reducible refine LeO.ite ?_ ?_)
      | (with_reducible refine LeO.bind ?_ (fun _ => ?_))
      | exact ih0 _ _ _ _ _
      | exact ieee_Quantize.mono _ _ _
      | exact tilefarmlaw6_sane.mono _
      | exact tilefarmref4_Same.mono _ _ _
      | exact tilefarmref6_Quantize.mono _ _ _
      | exact LeO.none _
      | refine LeO.ite ?_ ?_
      | refine LeO.bind ?_ (fun _ => ?_)
set_option maxHeartbeats 8000000 in
set_option maxRecDepth 100000 in
theorem tilefarmlaw6_IeeeQuantizes.calls (k : Nat) (A0 : Option Addr) (c0 : Nat) (l0 : List Int) (A1 : Option Addr) (c1 : Nat) (l1 : List Int) (a2 : Int) (r : Bool) (w : World) (hr0 : Kd.C (Kd.int .i64) w A0 l0.length l0) (hc0 : l0.length ≤ c0) (hr1 : Kd.C (Kd.int .u64) w A1 l1.length l1) (hc1 : l1.length ≤ c1) (h : tilefarmlaw6_IeeeQuantizes.f k l0 l1 a2 = some r) (hT : r = true := by first | rfl | assumption | exact HT.out) :
    Calls Try.prog 4 #[.slice A0 l0.length c0, .slice A1 l1.length c1, .int .i64 a2] w fun e w' => e = .returned (.bool r) ∧ Below w.heap.size w w' := by
  have HT := Aside0.mk hT
  clear hT
  have HR0 := Aside0.mk hr0
  have HC0 := Aside0.mk hc0
  clear hr0 hc0
  have HR1 := Aside0.mk hr1
  have HC1 := Aside0.mk hc1
  clear hr1 hc1
  have HB := Aside0.mk (Below.refl w.heap.size w)
  have H : ((tilefarmgen_New.f l0).bind fun bt217 => (tilefarmlaw6_IeeeQuantizes.l0 k l1 a2 0 bt217.1 bt217.2)) = some r := h
  clear h
  replace H := Option.bind_eq_some_iff.mp H
  obtain ⟨⟨t217, t218⟩, A40, H⟩ := H
  replace H : (tilefarmlaw6_IeeeQuantizes.l0 k l1 a2 0 t217 t218) = some r := H
  have A4 := Aside0.mk A40
  clear A40
  have H' := Aside0.mk H
  clear H
  go_enter Try.func4, Try.ntmps4
  go_wp2_with (first | ((with_reducible refine gate_callee (f := 8) rfl ?_); refine goesL_ (some 16) rfl rfl Try.func8 (by kernel_rfl) rfl #[.slice A0 l0.length c0] rfl (by (try simp only [List.map_toArray, List.map_cons, List.map_nil]); first | done | rfl | (simp only [List.length_drop, List.length_take]; rfl)) ?_; (with_reducible refine (tilefarmgen_New.calls _ _ l0 t217 t218 w _ ?side1 ?side2 ?side3 A4.out).mono ?_); (case side1 => repeat (first | (with_reducible first | exact HB.out | apply below_alloc | apply pw_below_drewN | apply below_drew1) | exact HB.out)); (case side2 => exact HR0.out); (case side3 => exact HC0.out); rintro e w5 ⟨g219, rfl, hi, hb, hb2⟩; refine ⟨_, rfl, ?_⟩; have n0_ := Aside0.mk (hb); have n1_ := Aside0.mk (hi); clear HB; have HB := n0_; have HI219 := n1_; clear n0_ n1_; (try clear hb); (try clear hb2); (try clear hk); (try clear hi)))
  go_loopg [8] k (fun kq v8 w' => ∃ (x8_1 : Int) (x220001_1 : Int), v8 = .int .i64 x8_1 ∧ Aside0 (tilefarmlaw6_IeeeQuantizes.l0 kq l1 a2 x8_1 t217 x220001_1 = some r) ∧ Aside0 (kq ≤ k) ∧ Aside0 (IsS49 w w' g219 t217 x220001_1) ∧ Aside0 (Below w.heap.size w w'))
  case atStart => exact ⟨(0), (t218), (by first | rfl | (simp; done) | (simp [*]; done)), H', ⟨Nat.le_refl _⟩, ⟨by repeat (first | (with_reducible first | exact HI219.out | apply IsS49.alloc | apply IsS49.drewN | apply IsS49.drew | apply IsS49.set_1) | exact HI219.out)⟩, ⟨by repeat (first | (with_reducible first | exact HB.out | apply below_alloc | apply pw_below_drewN | apply below_drew1 | refine below_set ?_ (IsS49.ge HI219.out)) | exact HB.out)⟩⟩
  case round =>
    clear H'
    try clear c1
    try clear p2
    try clear c4
    obtain ⟨x8_1, x220001_1, rfl, HA, HK1, HI219, HB⟩ := hrel
    cases gk with
    | zero => exact absurd HA.out (by simp [tilefarmlaw6_IeeeQuantizes.l0])
    | succ k1 =>
      have H := HA.out
      clear HA
      simp only [tilefarmlaw6_IeeeQuantizes.l0] at H
      by_cases c6 : x8_1 < 6
      · rw [if_pos c6] at H
        have c6b0 : decide (x8_1 < 6) = true := decide_eq_true c6
        clear c6
        replace H := Option.bind_eq_some_iff.mp H
        obtain ⟨⟨t220, t223⟩, A70, H⟩ := H
        replace H : ((tilefarmgen_Tape_Next.f t217 t223 26).bind fun bt224 => (if x8_1 = 5 then ((ieee_Quantize.f k1 l1 a2).bind fun bt226 => ((tilefarmref6_Quantize.f k1 l1 a2).bind fun bt230 => ((tilefarmref4_Same.f k1 bt226.1 bt230.1).bind fun t234 => (if t234 = true then (if bt226.2 = bt230.2 then (tilefarmlaw6_IeeeQuantizes.l0 k1 l1 a2 (wrap64 (x8_1 + 1)) t217 bt224.2) else (some false)) else (some false))))) else ((ieee_Quantize.f k1 t220 (wrap64 (bt224.1 - 1))).bind fun bt235 => ((tilefarmref6_Quantize.f k1 t220 (wrap64 (bt224.1 - 1))).bind fun bt239 => ((tilefarmref4_Same.f k1 bt235.1 bt239.1).bind fun t243 => (if t243 = true then (if bt235.2 = bt239.2 then (tilefarmlaw6_IeeeQuantizes.l0 k1 l1 a2 (wrap64 (x8_1 + 1)) t217 bt224.2) else (some false)) else (some false))))))) = some r := H
        have A7 := Aside0.mk A70
        clear A70
        replace H := Option.bind_eq_some_iff.mp H
        obtain ⟨⟨t224, t225⟩, A80, H⟩ := H
        replace H : (if x8_1 = 5 then ((ieee_Quantize.f k1 l1 a2).bind fun bt226 => ((tilefarmref6_Quantize.f k1 l1 a2).bind fun bt230 => ((tilefarmref4_Same.f k1 bt226.1 bt230.1).bind fun t234 => (if t234 = true then (if bt226.2 = bt230.2 then (tilefarmlaw6_IeeeQuantizes.l0 k1 l1 a2 (wrap64 (x8_1 + 1)) t217 t225) else (some false)) else (some false))))) else ((ieee_Quantize.f k1 t220 (wrap64 (t224 - 1))).bind fun bt235 => ((tilefarmref6_Quantize.f k1 t220 (wrap64 (t224 - 1))).bind fun bt239 => ((tilefarmref4_Same.f k1 bt235.1 bt239.1).bind fun t243 => (if t243 = true then (if bt235.2 = bt239.2 then (tilefarmlaw6_IeeeQuantizes.l0 k1 l1 a2 (wrap64 (x8_1 + 1)) t217 t225) else (some false)) else (some false)))))) = some r := H
        have A8 := Aside0.mk A80
        clear A80
        by_cases c9 : x8_1 = 5
        · rw [if_pos c9] at H
          have c9b0 : (x8_1 == 5) = true := beq_iff_eq.mpr c9
          have c9b1 : (x8_1 != 5) = false := bne_eq_false_iff_eq.mpr c9
          clear c9
          replace H := Option.bind_eq_some_iff.mp H
          obtain ⟨⟨t226, t227⟩, A100, H⟩ := H
          replace H : ((tilefarmref6_Quantize.f k1 l1 a2).bind fun bt230 => ((tilefarmref4_Same.f k1 t226 bt230.1).bind fun t234 => (if t234 = true then (if t227 = bt230.2 then (tilefarmlaw6_IeeeQuantizes.l0 k1 l1 a2 (wrap64 (x8_1 + 1)) t217 t225) else (some false)) else (some false)))) = some r := H
          have A10 := Aside0.mk A100
          clear A100
          replace H := Option.bind_eq_some_iff.mp H
          obtain ⟨⟨t230, t231⟩, A110, H⟩ := H
          replace H : ((tilefarmref4_Same.f k1 t226 t230).bind fun t234 => (if t234 = true then (if t227 = t231 then (tilefarmlaw6_IeeeQuantizes.l0 k1 l1 a2 (wrap64 (x8_1 + 1)) t217 t225) else (some false)) else (some false))) = some r := H
          have A11 := Aside0.mk A110
          clear A110
          replace H := Option.bind_eq_some_iff.mp H
          obtain ⟨t234, A120, H⟩ := H
          replace H : (if t234 = true then (if t227 = t231 then (tilefarmlaw6_IeeeQuantizes.l0 k1 l1 a2 (wrap64 (x8_1 + 1)) t217 t225) else (some false)) else (some false)) = some r := H
          have A12 := Aside0.mk A120
          clear A120
          by_cases c13 : t234 = true
          · subst c13
            have H1 : (if t227 = t231 then (tilefarmlaw6_IeeeQuantizes.l0 k1 l1 a2 (wrap64 (x8_1 + 1)) t217 t225) else (some false)) = some r := by rw [if_pos rfl] at H; exact H
            clear H
            have H := H1
            clear H1
            by_cases c14 : t227 = t231
            · rw [if_pos c14] at H
              have c14b0 : (t227 == t231) = true := beq_iff_eq.mpr c14
              have c14b1 : (t227 != t231) = false := bne_eq_false_iff_eq.mpr c14
              clear c14
              have H' := Aside0.mk H
              clear H
              go_wp2_with (first | ((with_reducible refine gate_callee (f := 15) rfl ?_); refine goesL_ (some 22) rfl rfl Try.func15 (by kernel_rfl) rfl #[.pointer (some ⟨g219, 0, none⟩)] rfl (by (try simp only [List.map_toArray, List.map_cons, List.map_nil]); first | done | rfl | (simp only [List.length_drop, List.length_take]; rfl)) ?_; (with_reducible refine (tilefarmgen_Tape_Third.calls g219 t217 x220001_1 t220 t223 w _ ?side1 ?side2 A7.out).mono ?_); (case side1 => repeat (first | (with_reducible first | exact HI219.out | apply IsS49.alloc | apply IsS49.drewN | apply IsS49.drew | apply IsS49.set_1) | exact HI219.out)); (case side2 => repeat (first | (with_reducible first | exact HB.out | apply below_alloc | apply pw_below_drewN | apply below_drew1 | refine below_set ?_ (IsS49.ge HI219.out)) | exact HB.out)); rintro e w15 ⟨v221, rfl, ho0, hi, hb, hk⟩; refine ⟨_, rfl, ?_⟩; have n0_ := Aside0.mk (Kd.R_lower ho0 (below_size (by repeat (first | (with_reducible first | exact HB.out | apply below_alloc | apply pw_below_drewN | apply below_drew1 | refine below_set ?_ (IsS49.ge HI219.out)) | exact HB.out)))); have n1_ := Aside0.mk (hb); have n2_ := Aside0.mk (hi); clear HB; clear HI219; have HO222 := n0_; have HB := n1_; have HI219 := n2_; clear n0_ n1_ n2_; (try clear hb); (try clear hb2); (try clear hk); (try clear hi); (try clear ho0)) | ((with_reducible refine gate_callee (f := 10) rfl ?_); refine goesL_ (some 24) rfl rfl Try.func10 (by kernel_rfl) rfl #[.pointer (some ⟨g219, 0, none⟩), .int .i64 26] rfl (by (try simp only [List.map_toArray, List.map_cons, List.map_nil]); first | done | rfl | (simp only [List.length_drop, List.length_take]; rfl)) ?_; (with_reducible refine (tilefarmgen_Tape_Next.calls g219 t217 t223 26 t224 t225 w _ ?side1 ?side2 A8.out).mono ?_); (case side1 => repeat (first | (with_reducible first | exact HI219.out | apply IsS49.alloc | apply IsS49.drewN | apply IsS49.drew | apply IsS49.set_1) | exact HI219.out)); (case side2 => repeat (first | (with_reducible first | exact HB.out | apply below_alloc | apply pw_below_drewN | apply below_drew1 | refine below_set ?_ (IsS49.ge HI219.out)) | exact HB.out)); rintro e w16 ⟨rfl, hi, hb, hk⟩; refine ⟨_, rfl, ?_⟩; have n0_ := Aside0.mk (Kd.R_mono (Kd.R_keep (IsS49.apart (show IsS49 w _ g219 t217 t223 from by repeat (first | (with_reducible first | exact HI219.out | apply IsS49.alloc | apply IsS49.drewN | apply IsS49.drew | apply IsS49.set_1) | exact HI219.out)) (by (with_reducible repeat (first | apply Kd.R_alloc | apply Kd.R_drewN | apply Kd.R_drew)); exact HO222.out) (by decide)) hk (fun _ h => h.2)) (fun _ h => h.1)); have n1_ := Aside0.mk (hb); have n2_ := Aside0.mk (hi); clear HO222; clear HB; clear HI219; have HO222 := n0_; have HB := n1_; have HI219 := n2_; clear n0_ n1_ n2_; (try clear hb); (try clear hb2); (try clear hk); (try clear hi)) | ((with_reducible refine gate_callee (f := 16) rfl ?_); refine goesL_ (some 33) rfl rfl Try.func16 (by kernel_rfl) rfl #[.slice A1 l1.length c1, .int .i64 a2] rfl (by (try simp only [List.map_toArray, List.map_cons, List.map_nil]); first | done | rfl | (simp only [List.length_drop, List.length_take]; rfl)) ?_; (with_reducible refine (ieee_Quantize.calls k1 _ _ l1 a2 t226 t227 _ ?side1 ?side2 A10.out).mono ?_); (case side1 => repeat (first | exact (Kd.C_below HR1.out HB.out) | (with_reducible refine Kd.C_alloc ?_ _) | (with_reducible refine Kd.C_drewN ?_ _) | (with_reducible refine Kd.C_drew ?_))); (case side2 => exact HC1.out); rintro e w17 ⟨v228, rfl, ho0, hb⟩; refine ⟨_, rfl, ?_⟩; have n0_ := Aside0.mk (Kd.R_below (by (with_reducible repeat (first | apply Kd.R_alloc | apply Kd.R_drewN | apply Kd.R_drew)); exact HO222.out) hb); have n1_ := Aside0.mk (Kd.R_lower ho0 (below_size (by repeat (first | (with_reducible first | exact HB.out | apply below_alloc | apply pw_below_drewN | apply below_drew1 | refine below_set ?_ (IsS49.ge HI219.out)) | exact HB.out)))); have n2_ := Aside0.mk (IsS49.below (by repeat (first | (with_reducible first | exact HI219.out | apply IsS49.alloc | apply IsS49.drewN | apply IsS49.drew | apply IsS49.set_1) | exact HI219.out)) hb); have n3_ := Aside0.mk (below_step (by repeat (first | (with_reducible first | exact HB.out | apply below_alloc | apply pw_below_drewN | apply below_drew1 | refine below_set ?_ (IsS49.ge HI219.out)) | exact HB.out)) hb); clear HO222; clear HI219; clear HB; have HO222 := n0_; have HO229 := n1_; have HI219 := n2_; have HB := n3_; clear n0_ n1_ n2_ n3_; (try clear hb); (try clear hb2); (try clear hk); (try clear hi); (try clear ho0)) | ((with_reducible refine gate_callee (f := 17) rfl ?_); refine goesL_ (some 39) rfl rfl Try.func17 (by kernel_rfl) rfl #[.slice A1 l1.length c1, .int .i64 a2] rfl (by (try simp only [List.map_toArray, List.map_cons, List.map_nil]); first | done | rfl | (simp only [List.length_drop, List.length_take]; rfl)) ?_; (with_reducible refine (tilefarmref6_Quantize.calls k1 _ _ l1 a2 t230 t231 _ ?side1 ?side2 A11.out).mono ?_); (case side1 => repeat (first | exact (Kd.C_below HR1.out HB.out) | (with_reducible refine Kd.C_alloc ?_ _) | (with_reducible refine Kd.C_drewN ?_ _) | (with_reducible refine Kd.C_drew ?_))); (case side2 => exact HC1.out); rintro e w18 ⟨v232, rfl, ho0, hb⟩; refine ⟨_, rfl, ?_⟩; have n0_ := Aside0.mk (Kd.R_below (by (with_reducible repeat (first | apply Kd.R_alloc | apply Kd.R_drewN | apply Kd.R_drew)); exact HO222.out) hb); have n1_ := Aside0.mk (Kd.R_elder' (by (with_reducible repeat (first | apply Kd.R_alloc | apply Kd.R_drewN | apply Kd.R_drew)); exact HO229.out) (Kd.R_base ho0) hb); have n2_ := Aside0.mk (Kd.R_lower (Kd.R_new' ho0 (Kd.R_lt (by (with_reducible repeat (first | apply Kd.R_alloc | apply Kd.R_drewN | apply Kd.R_drew)); exact HO229.out))) (below_size (by repeat (first | (with_reducible first | exact HB.out | apply below_alloc | apply pw_below_drewN | apply below_drew1 | refine below_set ?_ (IsS49.ge HI219.out)) | exact HB.out)))); have n3_ := Aside0.mk (IsS49.below (by repeat (first | (with_reducible first | exact HI219.out | apply IsS49.alloc | apply IsS49.drewN | apply IsS49.drew | apply IsS49.set_1) | exact HI219.out)) hb); have n4_ := Aside0.mk (below_step (by repeat (first | (with_reducible first | exact HB.out | apply below_alloc | apply pw_below_drewN | apply below_drew1 | refine below_set ?_ (IsS49.ge HI219.out)) | exact HB.out)) hb); clear HO222; clear HO229; clear HI219; clear HB; have HO222 := n0_; have HO229 := n1_; have HO233 := n2_; have HI219 := n3_; have HB := n4_; clear n0_ n1_ n2_ n3_ n4_; (try clear hb); (try clear hb2); (try clear hk); (try clear hi); (try clear ho0); obtain ⟨Ao19, co19, eo19⟩ := Kd.R_slice HO229.out; subst eo19; obtain ⟨Ao20, co20, eo20⟩ := Kd.R_slice HO233.out; subst eo20) | ((with_reducible refine gate_callee (f := 18) rfl ?_); refine goesL_ (some 44) rfl rfl Try.func18 (by kernel_rfl) rfl #[.slice Ao19 t226.length co19, .slice Ao20 t230.length co20] rfl (by (try simp only [List.map_toArray, List.map_cons, List.map_nil]); first | done | rfl | (simp only [List.length_drop, List.length_take]; rfl)) ?_; (with_reducible refine (tilefarmref4_Same.calls k1 _ _ t226 _ _ t230 true _ ?side1 ?side2 ?side3 ?side4 A12.out).mono ?_); (case side1 => repeat (first | exact (Kd.R_reads' HO229.out).2.2 | (with_reducible refine Kd.C_alloc ?_ _) | (with_reducible refine Kd.C_drewN ?_ _) | (with_reducible refine Kd.C_drew ?_))); (case side2 => exact (Kd.R_reads' HO229.out).2.1); (case side3 => repeat (first | exact (Kd.R_reads' HO233.out).2.2 | (with_reducible refine Kd.C_alloc ?_ _) | (with_reducible refine Kd.C_drewN ?_ _) | (with_reducible refine Kd.C_drew ?_))); (case side4 => exact (Kd.R_reads' HO233.out).2.1); rintro e w' ⟨rfl, ⟨nd, rfl⟩⟩; refine ⟨_, rfl, ?_⟩))
              go_roundg k1
              case measure => have := HK1.out; omega
              case rel => exact ⟨(wrap64 (x8_1 + 1)), (t225), (by first | rfl | (simp; done) | (simp [*]; done)), H', ⟨by have := HK1.out; omega⟩, ⟨by repeat (first | (with_reducible first | exact HI219.out | apply IsS49.alloc | apply IsS49.drewN | apply IsS49.drew | apply IsS49.set_1) | exact HI219.out)⟩, ⟨by repeat (first | (with_reducible first | exact HB.out | apply below_alloc | apply pw_below_drewN | apply below_drew1 | refine below_set ?_ (IsS49.ge HI219.out)) | exact HB.out)⟩⟩
            · rw [if_neg c14] at H
              have c14b0 : (t227 == t231) = false := beq_eq_false_iff_ne.mpr c14
              have c14b1 : (t227 != t231) = true := bne_iff_ne.mpr c14
              exact absurd ((Option.some.inj H).trans HT.out) (by decide)
          · replace c13 := Bool.eq_false_iff.mpr c13
            subst c13
            have H1 : (some false) = some r := by rw [if_neg (show ¬ (false = true) by decide)] at H; exact H
            clear H
            have H := H1
            clear H1
            exact absurd ((Option.some.inj H).trans HT.out) (by decide)
        · rw [if_neg c9] at H
          have c9b0 : (x8_1 == 5) = false := beq_eq_false_iff_ne.mpr c9
          have c9b1 : (x8_1 != 5) = true := bne_iff_ne.mpr c9
          replace H := Option.bind_eq_some_iff.mp H
          obtain ⟨⟨t235, t236⟩, A210, H⟩ := H
          replace H : ((tilefarmref6_Quantize.f k1 t220 (wrap64 (t224 - 1))).bind fun bt239 => ((tilefarmref4_Same.f k1 t235 bt239.1).bind fun t243 => (if t243 = true then (if t236 = bt239.2 then (tilefarmlaw6_IeeeQuantizes.l0 k1 l1 a2 (wrap64 (x8_1 + 1)) t217 t225) else (some false)) else (some false)))) = some r := H
          have A21 := Aside0.mk A210
          clear A210
          replace H := Option.bind_eq_some_iff.mp H
          obtain ⟨⟨t239, t240⟩, A220, H⟩ := H
          replace H : ((tilefarmref4_Same.f k1 t235 t239).bind fun t243 => (if t243 = true then (if t236 = t240 then (tilefarmlaw6_IeeeQuantizes.l0 k1 l1 a2 (wrap64 (x8_1 + 1)) t217 t225) else (some false)) else (some false))) = some r := H
          have A22 := Aside0.mk A220
          clear A220
          replace H := Option.bind_eq_some_iff.mp H
          obtain ⟨t243, A230, H⟩ := H
          replace H : (if t243 = true then (if t236 = t240 then (tilefarmlaw6_IeeeQuantizes.l0 k1 l1 a2 (wrap64 (x8_1 + 1)) t217 t225) else (some false)) else (some false)) = some r := H
          have A23 := Aside0.mk A230
          clear A230
          by_cases c24 : t243 = true
          · subst c24
            have H1 : (if t236 = t240 then (tilefarmlaw6_IeeeQuantizes.l0 k1 l1 a2 (wrap64 (x8_1 + 1)) t217 t225) else (some false)) = some r := by rw [if_pos rfl] at H; exact H
            clear H
            have H := H1
            clear H1
            by_cases c25 : t236 = t240
            · rw [if_pos c25] at H
              have c25b0 : (t236 == t240) = true := beq_iff_eq.mpr c25
              have c25b1 : (t236 != t240) = false := bne_eq_false_iff_eq.mpr c25
              clear c25
              have H' := Aside0.mk H
              clear H
              go_wp2_with (first | ((with_reducible refine gate_callee (f := 15) rfl ?_); refine goesL_ (some 22) rfl rfl Try.func15 (by kernel_rfl) rfl #[.pointer (some ⟨g219, 0, none⟩)] rfl (by (try simp only [List.map_toArray, List.map_cons, List.map_nil]); first | done | rfl | (simp only [List.length_drop, List.length_take]; rfl)) ?_; (with_reducible refine (tilefarmgen_Tape_Third.calls g219 t217 x220001_1 t220 t223 w _ ?side1 ?side2 A7.out).mono ?_); (case side1 => repeat (first | (with_reducible first | exact HI219.out | apply IsS49.alloc | apply IsS49.drewN | apply IsS49.drew | apply IsS49.set_1) | exact HI219.out)); (case side2 => repeat (first | (with_reducible first | exact HB.out | apply below_alloc | apply pw_below_drewN | apply below_drew1 | refine below_set ?_ (IsS49.ge HI219.out)) | exact HB.out)); rintro e w26 ⟨v221, rfl, ho0, hi, hb, hk⟩; refine ⟨_, rfl, ?_⟩; have n0_ := Aside0.mk (Kd.R_lower ho0 (below_size (by repeat (first | (with_reducible first | exact HB.out | apply below_alloc | apply pw_below_drewN | apply below_drew1 | refine below_set ?_ (IsS49.ge HI219.out)) | exact HB.out)))); have n1_ := Aside0.mk (hb); have n2_ := Aside0.mk (hi); clear HB; clear HI219; have HO222 := n0_; have HB := n1_; have HI219 := n2_; clear n0_ n1_ n2_; (try clear hb); (try clear hb2); (try clear hk); (try clear hi); (try clear ho0)) | ((with_reducible refine gate_callee (f := 10) rfl ?_); refine goesL_ (some 24) rfl rfl Try.func10 (by kernel_rfl) rfl #[.pointer (some ⟨g219, 0, none⟩), .int .i64 26] rfl (by (try simp only [List.map_toArray, List.map_cons, List.map_nil]); first | done | rfl | (simp only [List.length_drop, List.length_take]; rfl)) ?_; (with_reducible refine (tilefarmgen_Tape_Next.calls g219 t217 t223 26 t224 t225 w _ ?side1 ?side2 A8.out).mono ?_); (case side1 => repeat (first | (with_reducible first | exact HI219.out | apply IsS49.alloc | apply IsS49.drewN | apply IsS49.drew | apply IsS49.set_1) | exact HI219.out)); (case side2 => repeat (first | (with_reducible first | exact HB.out | apply below_alloc | apply pw_below_drewN | apply below_drew1 | refine below_set ?_ (IsS49.ge HI219.out)) | exact HB.out)); rintro e w27 ⟨rfl, hi, hb, hk⟩; refine ⟨_, rfl, ?_⟩; have n0_ := Aside0.mk (Kd.R_mono (Kd.R_keep (IsS49.apart (show IsS49 w _ g219 t217 t223 from by repeat (first | (with_reducible first | exact HI219.out | apply IsS49.alloc | apply IsS49.drewN | apply IsS49.drew | apply IsS49.set_1) | exact HI219.out)) (by (with_reducible repeat (first | apply Kd.R_alloc | apply Kd.R_drewN | apply Kd.R_drew)); exact HO222.out) (by decide)) hk (fun _ h => h.2)) (fun _ h => h.1)); have n1_ := Aside0.mk (hb); have n2_ := Aside0.mk (hi); clear HO222; clear HB; clear HI219; have HO222 := n0_; have HB := n1_; have HI219 := n2_; clear n0_ n1_ n2_; (try clear hb); (try clear hb2); (try clear hk); (try clear hi); obtain ⟨Ao28, co28, eo28⟩ := Kd.R_slice HO222.out; subst eo28) | ((with_reducible refine gate_callee (f := 16) rfl ?_); refine goesL_ (some 33) rfl rfl Try.func16 (by kernel_rfl) rfl #[.slice Ao28 t220.length co28, .int .i64 (wrap64 (t224 - 1))] rfl (by (try simp only [List.map_toArray, List.map_cons, List.map_nil]); first | done | rfl | (simp only [List.length_drop, List.length_take]; rfl)) ?_; (with_reducible refine (ieee_Quantize.calls k1 _ _ t220 (wrap64 (t224 - 1)) t235 t236 _ ?side1 ?side2 A21.out).mono ?_); (case side1 => repeat (first | exact (Kd.R_reads' HO222.out).2.2 | (with_reducible refine Kd.C_alloc ?_ _) | (with_reducible refine Kd.C_drewN ?_ _) | (with_reducible refine Kd.C_drew ?_))); (case side2 => exact (Kd.R_reads' HO222.out).2.1); rintro e w29 ⟨v237, rfl, ho0, hb⟩; refine ⟨_, rfl, ?_⟩; have n0_ := Aside0.mk (Kd.R_below (by (with_reducible repeat (first | apply Kd.R_alloc | apply Kd.R_drewN | apply Kd.R_drew)); exact HO222.out) hb); have n1_ := Aside0.mk (Kd.R_lower ho0 (below_size (by repeat (first | (with_reducible first | exact HB.out | apply below_alloc | apply pw_below_drewN | apply below_drew1 | refine below_set ?_ (IsS49.ge HI219.out)) | exact HB.out)))); have n2_ := Aside0.mk (IsS49.below (by repeat (first | (with_reducible first | exact HI219.out | apply IsS49.alloc | apply IsS49.drewN | apply IsS49.drew | apply IsS49.set_1) | exact HI219.out)) hb); have n3_ := Aside0.mk (below_step (by repeat (first | (with_reducible first | exact HB.out | apply below_alloc | apply pw_below_drewN | apply below_drew1 | refine below_set ?_ (IsS49.ge HI219.out)) | exact HB.out)) hb); clear HO222; clear HI219; clear HB; have HO222 := n0_; have HO238 := n1_; have HI219 := n2_; have HB := n3_; clear n0_ n1_ n2_ n3_; (try clear hb); (try clear hb2); (try clear hk); (try clear hi); (try clear ho0)) | ((with_reducible refine gate_callee (f := 17) rfl ?_); refine goesL_ (some 39) rfl rfl Try.func17 (by kernel_rfl) rfl #[.slice Ao28 t220.length co28, .int .i64 (wrap64 (t224 - 1))] rfl (by (try simp only [List.map_toArray, List.map_cons, List.map_nil]); first | done | rfl | (simp only [List.length_drop, List.length_take]; rfl)) ?_; (with_reducible refine (tilefarmref6_Quantize.calls k1 _ _ t220 (wrap64 (t224 - 1)) t239 t240 _ ?side1 ?side2 A22.out).mono ?_); (case side1 => repeat (first | exact (Kd.R_reads' HO222.out).2.2 | (with_reducible refine Kd.C_alloc ?_ _) | (with_reducible refine Kd.C_drewN ?_ _) | (with_reducible refine Kd.C_drew ?_))); (case side2 => exact (Kd.R_reads' HO222.out).2.1); rintro e w30 ⟨v241, rfl, ho0, hb⟩; refine ⟨_, rfl, ?_⟩; have n0_ := Aside0.mk (Kd.R_below (by (with_reducible repeat (first | apply Kd.R_alloc | apply Kd.R_drewN | apply Kd.R_drew)); exact HO222.out) hb); have n1_ := Aside0.mk (Kd.R_elder' (by (with_reducible repeat (first | apply Kd.R_alloc | apply Kd.R_drewN | apply Kd.R_drew)); exact HO238.out) (Kd.R_base ho0) hb); have n2_ := Aside0.mk (Kd.R_lower (Kd.R_new' ho0 (Kd.R_lt (by (with_reducible repeat (first | apply Kd.R_alloc | apply Kd.R_drewN | apply Kd.R_drew)); exact HO238.out))) (below_size (by repeat (first | (with_reducible first | exact HB.out | apply below_alloc | apply pw_below_drewN | apply below_drew1 | refine below_set ?_ (IsS49.ge HI219.out)) | exact HB.out)))); have n3_ := Aside0.mk (IsS49.below (by repeat (first | (with_reducible first | exact HI219.out | apply IsS49.alloc | apply IsS49.drewN | apply IsS49.drew | apply IsS49.set_1) | exact HI219.out)) hb); have n4_ := Aside0.mk (below_step (by repeat (first | (with_reducible first | exact HB.out | apply below_alloc | apply pw_below_drewN | apply below_drew1 | refine below_set ?_ (IsS49.ge HI219.out)) | exact HB.out)) hb); clear HO222; clear HO238; clear HI219; clear HB; have HO222 := n0_; have HO238 := n1_; have HO242 := n2_; have HI219 := n3_; have HB := n4_; clear n0_ n1_ n2_ n3_ n4_; (try clear hb); (try clear hb2); (try clear hk); (try clear hi); (try clear ho0); obtain ⟨Ao31, co31, eo31⟩ := Kd.R_slice HO238.out; subst eo31; obtain ⟨Ao32, co32, eo32⟩ := Kd.R_slice HO242.out; subst eo32) | ((with_reducible refine gate_callee (f := 18) rfl ?_); refine goesL_ (some 44) rfl rfl Try.func18 (by kernel_rfl) rfl #[.slice Ao31 t235.length co31, .slice Ao32 t239.length co32] rfl (by (try simp only [List.map_toArray, List.map_cons, List.map_nil]); first | done | rfl | (simp only [List.length_drop, List.length_take]; rfl)) ?_; (with_reducible refine (tilefarmref4_Same.calls k1 _ _ t235 _ _ t239 true _ ?side1 ?side2 ?side3 ?side4 A23.out).mono ?_); (case side1 => repeat (first | exact (Kd.R_reads' HO238.out).2.2 | (with_reducible refine Kd.C_alloc ?_ _) | (with_reducible refine Kd.C_drewN ?_ _) | (with_reducible refine Kd.C_drew ?_))); (case side2 => exact (Kd.R_reads' HO238.out).2.1); (case side3 => repeat (first | exact (Kd.R_reads' HO242.out).2.2 | (with_reducible refine Kd.C_alloc ?_ _) | (with_reducible refine Kd.C_drewN ?_ _) | (with_reducible refine Kd.C_drew ?_))); (case side4 => exact (Kd.R_reads' HO242.out).2.1); rintro e w' ⟨rfl, ⟨nd, rfl⟩⟩; refine ⟨_, rfl, ?_⟩))
              go_roundg k1
              case measure => have := HK1.out; omega
              case rel => exact ⟨(wrap64 (x8_1 + 1)), (t225), (by first | rfl | (simp; done) | (simp [*]; done)), H', ⟨by have := HK1.out; omega⟩, ⟨by repeat (first | (with_reducible first | exact HI219.out | apply IsS49.alloc | apply IsS49.drewN | apply IsS49.drew | apply IsS49.set_1) | exact HI219.out)⟩, ⟨by repeat (first | (with_reducible first | exact HB.out | apply below_alloc | apply pw_below_drewN | apply below_drew1 | refine below_set ?_ (IsS49.ge HI219.out)) | exact HB.out)⟩⟩
            · rw [if_neg c25] at H
              have c25b0 : (t236 == t240) = false := beq_eq_false_iff_ne.mpr c25
              have c25b1 : (t236 != t240) = true := bne_iff_ne.mpr c25
              exact absurd ((Option.some.inj H).trans HT.out) (by decide)
          · replace c24 := Bool.eq_false_iff.mpr c24
            subst c24
            have H1 : (some false) = some r := by rw [if_neg (show ¬ (false = true) by decide)] at H; exact H
            clear H
            have H := H1
            clear H1
            exact absurd ((Option.some.inj H).trans HT.out) (by decide)
      · rw [if_neg c6] at H
        have c6b0 : decide (x8_1 < 6) = false := decide_eq_false c6
        clear c6
        replace H := Option.bind_eq_some_iff.mp H
        obtain ⟨t244, A330, H⟩ := H
        replace H : (some t244) = some r := H
        have A33 := Aside0.mk A330
        clear A330
        obtain rfl := Option.some.inj H
        go_wp2_with (first | ((with_reducible refine gate_callee (f := 14) rfl ?_); refine goesL_ (some 51) rfl rfl Try.func14 (by kernel_rfl) rfl #[] rfl (by (try simp only [List.map_toArray, List.map_cons, List.map_nil]); first | done | rfl | (simp only [List.length_drop, List.length_take]; rfl)) ?_; (with_reducible refine (tilefarmlaw6_sane.calls k1  t244 _ A33.out).mono ?_); rintro e w34 ⟨rfl, hb⟩; refine ⟨_, rfl, ?_⟩; have n0_ := Aside0.mk (IsS49.below (by repeat (first | (with_reducible first | exact HI219.out | apply IsS49.alloc | apply IsS49.drewN | apply IsS49.drew | apply IsS49.set_1) | exact HI219.out)) hb); have n1_ := Aside0.mk (below_step (by repeat (first | (with_reducible first | exact HB.out | apply below_alloc | apply pw_below_drewN | apply below_drew1 | refine below_set ?_ (IsS49.ge HI219.out)) | exact HB.out)) hb); clear HI219; clear HB; have HI219 := n0_; have HB := n1_; clear n0_ n1_; (try clear hb); (try clear hb2); (try clear hk); (try clear hi)))
        go_ret
        exact ⟨by first | rfl | (simp [errW_none, errW_some] <;> rfl) | (simp [*, errW_none, errW_some] <;> rfl), by repeat (first | (with_reducible first | exact HB.out | apply below_alloc | apply pw_below_drewN | apply below_drew1 | refine below_set ?_ (IsS49.ge HI219.out)) | exact HB.out)⟩

/-- THE ONE PURE STATEMENT of tilefarmlaw6_IeeeQuantizes: yours. -/
def tilefarmlaw6_IeeeQuantizes.Pure : Prop := ∀ (l0 : List Int) (l1 : List Int) (a2 : Int), l0.length ≤ maxLen → l0.length * 8 ≤ 140737488351232 → (∀ x ∈ l0, (Lit.int .i64 x).wf = true) → l1.length ≤ maxLen → l1.length * 8 ≤ 140737488351232 → (∀ x ∈ l1, (Lit.int .u64 x).wf = true) → (Lit.int .i64 a2).wf = true → ∃ k, tilefarmlaw6_IeeeQuantizes.f k l0 l1 a2 = some true
theorem tilefarmlaw6_IeeeQuantizes.walk (P : tilefarmlaw6_IeeeQuantizes.Pure) (a0 : Option Addr) (len0 cap0 : Nat) (z0 : List Int) (a1 : Option Addr) (len1 cap1 : Nat) (z1 : List Int) (a2 : Int) (w : World) (w0 : (a0 = none ∧ len0 = 0 ∧ cap0 = 0 ∧ z0 = []) ∨ ∃ x, a0 = some x ∧ len0 ≤ cap0 ∧ cap0 ≤ maxLen ∧ z0.length = cap0 ∧ (∀ i, i < z0.length → w.cell? (x.add i) = some (.int .i64 (z0.getD i 0))) ∧ ∀ n ∈ z0, (Lit.int .i64 n).wf = true) (y0 : len0 * 8 ≤ 140737488351232) (w1 : (a1 = none ∧ len1 = 0 ∧ cap1 = 0 ∧ z1 = []) ∨ ∃ x, a1 = some x ∧ len1 ≤ cap1 ∧ cap1 ≤ maxLen ∧ z1.length = cap1 ∧ (∀ i, i < z1.length → w.cell? (x.add i) = some (.int .u64 (z1.getD i 0))) ∧ ∀ n ∈ z1, (Lit.int .u64 n).wf = true) (y1 : len1 * 8 ≤ 140737488351232) (w2 : (Lit.int .i64 a2).wf = true) :
    Calls Try.prog 4 #[.slice a0 len0 cap0, .slice a1 len1 cap1, .int .i64 a2] w fun e w' => e = .returned (.bool true) ∧ Below w.heap.size w w' := by
  obtain ⟨l0, rfl, hr0, hm0, hw0, hc0⟩ := ReadsInt.ofRowC w0
  obtain ⟨l1, rfl, hr1, hm1, hw1, hc1⟩ := ReadsInt.ofRowC w1
  obtain ⟨k, h⟩ := P l0 l1 a2 hm0 y0 hw0 hm1 y1 hw1 w2
  refine (tilefarmlaw6_IeeeQuantizes.calls k _ _ l0 _ _ l1 a2 true w (Kd.C_of_reads (d := (0 : Int)) (h1 := fun _ => rfl) hr0) hc0 (Kd.C_of_reads (d := (0 : Int)) (h1 := fun _ => rfl) hr1) hc1 h).mono ?_
  rintro e w' ⟨rfl, hd⟩
  exact ⟨rfl, hd⟩

end Go.Proofs.Ytoamkepelnphaaa.PIeeeQuantizes
