-- Written by a program of the session (wip/tools/myprint.py) over the kit's printer; checked by Lean.
import Derived.Test.YtoamkepelnphaaaPIeeeSignsx0
import Derived.Test.YtoamkepelnphaaaPIeeeSignsx1
import Derived.Test.YtoamkepelnphaaaPIeeeSignsx2
import Derived.Test.YtoamkepelnphaaaPIeeeSignsx3
namespace Go.Proofs.Ytoamkepelnphaaa.PIeeeSigns
open Go.RowKit Go.Proofs.YtoamkepelnphaaaW.PrintWords Go.Proofs.YtoamkepelnphaaaW.PrintLast Go.Proofs.YtoamkepelnphaaaW.PrintMore
attribute [local go_sem] max2_int min2_int max_two min_two max_three min_three max_four min_four   -- for this text's walks alone
set_option linter.unusedVariables false
set_option linter.unusedSimpArgs false

/-! ### tilefarmlaw6_IeeeSigns: function 7 -/
def tilefarmlaw6_IeeeSigns.f (k : Nat) (l0 : List Int) (a1 : Int) : Option (Bool) := (tilefarmgen_New.f l0).bind fun bt179 => ((tilefarmgen_Tape_Bits.f bt179.1 bt179.2).bind fun bt182 => ((tilefarmgen_Mod.f a1 25).bind fun t184 => ((ieee_Scale.f k bt182.1 t184).bind fun bt185 => ((ieee_Scale.f k (Go.bits .xor .u64 bt182.1 9223372036854775808) t184).bind fun bt187 => ((ieee_Parts.f k bt182.1).bind fun bt189 => ((ieee_Parts.f k (Go.bits .xor .u64 bt182.1 9223372036854775808)).bind fun bt192 => ((ieee_Compare.f k bt182.1 (Go.bits .xor .u64 bt182.1 9223372036854775808)).bind fun bt195 => (if bt185.1 = (wrap64 (-bt187.1)) then (if bt185.2 = bt187.2 then (if bt189.1 = (wrap64 (-bt192.1)) then (if bt189.2.1 = bt192.2.1 then (if (bt189.2.2 == bt192.2.2) = true then ((ieee_Class.f k bt182.1).bind fun t197 => ((ieee_Class.f k (Go.bits .xor .u64 bt182.1 9223372036854775808)).bind fun t198 => (if t197 = t198 then (if bt195.2 = true then ((ieee_Class.f k bt182.1).bind fun t199 => (if ((bt195.1 == 0) == (t199 == 0)) = true then ((tilefarmlaw6_sane.f k).bind fun t200 => (some t200)) else (some false))) else ((tilefarmlaw6_sane.f k).bind fun t201 => (some t201))) else (some false)))) else (some false)) else (some false)) else (some false)) else (some false)) else (some false)))))))))
theorem tilefarmlaw6_IeeeSigns.mono : ∀ a0 a1 k, LeO (tilefarmlaw6_IeeeSigns.f k a0 a1) (tilefarmlaw6_IeeeSigns.f (k + 1) a0 a1) := by
  intro a0 a1 k
  unfold tilefarmlaw6_IeeeSigns.f
  repeat' first
      | (with_reducible exact ieee_Class.mono _ _)
      | (with_reducible exact ieee_Compare.mono _ _ _)
      | (with_reducible exact ieee_Parts.mono _ _)
      | (with_reducible exact ieee_Scale.mono _ _ _)
      | (with_reducible exact tilefarmlaw6_sane.mono _)
      | (with_reducible exact LeO.refl _)
      | (with_reducible exact LeO.none _)
      | (with_reducible refine LeO.ite ?_ ?_)
      | (with_reducible refine LeO.bind ?_ (fun _ => ?_))
      | exact ieee_Class.mono _ _
      | exact ieee_Compare.mono _ _ _
      | exact ieee_Parts.mono _ _
      | exact ieee_Scale.mono _ _ _
      | exact tilefarmlaw6_sane.mono _
      | exact LeO.none _
      | refine LeO.ite ?_ ?_
      | refine LeO.bind ?_ (fun _ => ?_)
set_option maxHeartbeats 8000000 in
set_option maxRecDepth 100000 in
theorem tilefarmlaw6_IeeeSigns.calls (k : Nat) (A0 : Option Addr) (c0 : Nat) (l0 : List Int) (a1 : Int) (r : Bool) (w : World) (hr0 : Kd.C (Kd.int .i64) w A0 l0.length l0) (hc0 : l0.length ≤ c0) (h : tilefarmlaw6_IeeeSigns.f k l0 a1 = some r) (hT : r = true := by first | rfl | assumption | exact HT.out) :
    Calls Try.prog 7 #[.slice A0 l0.length c0, .int .i64 a1] w fun e w' => e = .returned (.bool r) ∧ Below w.heap.size w w' := by
  have HT := Aside0.mk hT
  clear hT
  have HR0 := Aside0.mk hr0
  have HC0 := Aside0.mk hc0
  clear hr0 hc0
  have HB := Aside0.mk (Below.refl w.heap.size w)
  have H : ((tilefarmgen_New.f l0).bind fun bt179 => ((tilefarmgen_Tape_Bits.f bt179.1 bt179.2).bind fun bt182 => ((tilefarmgen_Mod.f a1 25).bind fun t184 => ((ieee_Scale.f k bt182.1 t184).bind fun bt185 => ((ieee_Scale.f k (Go.bits .xor .u64 bt182.1 9223372036854775808) t184).bind fun bt187 => ((ieee_Parts.f k bt182.1).bind fun bt189 => ((ieee_Parts.f k (Go.bits .xor .u64 bt182.1 9223372036854775808)).bind fun bt192 => ((ieee_Compare.f k bt182.1 (Go.bits .xor .u64 bt182.1 9223372036854775808)).bind fun bt195 => (if bt185.1 = (wrap64 (-bt187.1)) then (if bt185.2 = bt187.2 then (if bt189.1 = (wrap64 (-bt192.1)) then (if bt189.2.1 = bt192.2.1 then (if (bt189.2.2 == bt192.2.2) = true then ((ieee_Class.f k bt182.1).bind fun t197 => ((ieee_Class.f k (Go.bits .xor .u64 bt182.1 9223372036854775808)).bind fun t198 => (if t197 = t198 then (if bt195.2 = true then ((ieee_Class.f k bt182.1).bind fun t199 => (if ((bt195.1 == 0) == (t199 == 0)) = true then ((tilefarmlaw6_sane.f k).bind fun t200 => (some t200)) else (some false))) else ((tilefarmlaw6_sane.f k).bind fun t201 => (some t201))) else (some false)))) else (some false)) else (some false)) else (some false)) else (some false)) else (some false)))))))))) = some r := h
  clear h
  replace H := Option.bind_eq_some_iff.mp H
  obtain ⟨⟨t179, t180⟩, A30, H⟩ := H
  replace H : ((tilefarmgen_Tape_Bits.f t179 t180).bind fun bt182 => ((tilefarmgen_Mod.f a1 25).bind fun t184 => ((ieee_Scale.f k bt182.1 t184).bind fun bt185 => ((ieee_Scale.f k (Go.bits .xor .u64 bt182.1 9223372036854775808) t184).bind fun bt187 => ((ieee_Parts.f k bt182.1).bind fun bt189 => ((ieee_Parts.f k (Go.bits .xor .u64 bt182.1 9223372036854775808)).bind fun bt192 => ((ieee_Compare.f k bt182.1 (Go.bits .xor .u64 bt182.1 9223372036854775808)).bind fun bt195 => (if bt185.1 = (wrap64 (-bt187.1)) then (if bt185.2 = bt187.2 then (if bt189.1 = (wrap64 (-bt192.1)) then (if bt189.2.1 = bt192.2.1 then (if (bt189.2.2 == bt192.2.2) = true then ((ieee_Class.f k bt182.1).bind fun t197 => ((ieee_Class.f k (Go.bits .xor .u64 bt182.1 9223372036854775808)).bind fun t198 => (if t197 = t198 then (if bt195.2 = true then ((ieee_Class.f k bt182.1).bind fun t199 => (if ((bt195.1 == 0) == (t199 == 0)) = true then ((tilefarmlaw6_sane.f k).bind fun t200 => (some t200)) else (some false))) else ((tilefarmlaw6_sane.f k).bind fun t201 => (some t201))) else (some false)))) else (some false)) else (some false)) else (some false)) else (some false)) else (some false))))))))) = some r := H
  have A3 := Aside0.mk A30
  clear A30
  replace H := Option.bind_eq_some_iff.mp H
  obtain ⟨⟨t182, t183⟩, A40, H⟩ := H
  replace H : ((tilefarmgen_Mod.f a1 25).bind fun t184 => ((ieee_Scale.f k t182 t184).bind fun bt185 => ((ieee_Scale.f k (Go.bits .xor .u64 t182 9223372036854775808) t184).bind fun bt187 => ((ieee_Parts.f k t182).bind fun bt189 => ((ieee_Parts.f k (Go.bits .xor .u64 t182 9223372036854775808)).bind fun bt192 => ((ieee_Compare.f k t182 (Go.bits .xor .u64 t182 9223372036854775808)).bind fun bt195 => (if bt185.1 = (wrap64 (-bt187.1)) then (if bt185.2 = bt187.2 then (if bt189.1 = (wrap64 (-bt192.1)) then (if bt189.2.1 = bt192.2.1 then (if (bt189.2.2 == bt192.2.2) = true then ((ieee_Class.f k t182).bind fun t197 => ((ieee_Class.f k (Go.bits .xor .u64 t182 9223372036854775808)).bind fun t198 => (if t197 = t198 then (if bt195.2 = true then ((ieee_Class.f k t182).bind fun t199 => (if ((bt195.1 == 0) == (t199 == 0)) = true then ((tilefarmlaw6_sane.f k).bind fun t200 => (some t200)) else (some false))) else ((tilefarmlaw6_sane.f k).bind fun t201 => (some t201))) else (some false)))) else (some false)) else (some false)) else (some false)) else (some false)) else (some false)))))))) = some r := H
  have A4 := Aside0.mk A40
  clear A40
  replace H := Option.bind_eq_some_iff.mp H
  obtain ⟨t184, A50, H⟩ := H
  replace H : ((ieee_Scale.f k t182 t184).bind fun bt185 => ((ieee_Scale.f k (Go.bits .xor .u64 t182 9223372036854775808) t184).bind fun bt187 => ((ieee_Parts.f k t182).bind fun bt189 => ((ieee_Parts.f k (Go.bits .xor .u64 t182 9223372036854775808)).bind fun bt192 => ((ieee_Compare.f k t182 (Go.bits .xor .u64 t182 9223372036854775808)).bind fun bt195 => (if bt185.1 = (wrap64 (-bt187.1)) then (if bt185.2 = bt187.2 then (if bt189.1 = (wrap64 (-bt192.1)) then (if bt189.2.1 = bt192.2.1 then (if (bt189.2.2 == bt192.2.2) = true then ((ieee_Class.f k t182).bind fun t197 => ((ieee_Class.f k (Go.bits .xor .u64 t182 9223372036854775808)).bind fun t198 => (if t197 = t198 then (if bt195.2 = true then ((ieee_Class.f k t182).bind fun t199 => (if ((bt195.1 == 0) == (t199 == 0)) = true then ((tilefarmlaw6_sane.f k).bind fun t200 => (some t200)) else (some false))) else ((tilefarmlaw6_sane.f k).bind fun t201 => (some t201))) else (some false)))) else (some false)) else (some false)) else (some false)) else (some false)) else (some false))))))) = some r := H
  have A5 := Aside0.mk A50
  clear A50
  replace H := Option.bind_eq_some_iff.mp H
  obtain ⟨⟨t185, t186⟩, A60, H⟩ := H
  replace H : ((ieee_Scale.f k (Go.bits .xor .u64 t182 9223372036854775808) t184).bind fun bt187 => ((ieee_Parts.f k t182).bind fun bt189 => ((ieee_Parts.f k (Go.bits .xor .u64 t182 9223372036854775808)).bind fun bt192 => ((ieee_Compare.f k t182 (Go.bits .xor .u64 t182 9223372036854775808)).bind fun bt195 => (if t185 = (wrap64 (-bt187.1)) then (if t186 = bt187.2 then (if bt189.1 = (wrap64 (-bt192.1)) then (if bt189.2.1 = bt192.2.1 then (if (bt189.2.2 == bt192.2.2) = true then ((ieee_Class.f k t182).bind fun t197 => ((ieee_Class.f k (Go.bits .xor .u64 t182 9223372036854775808)).bind fun t198 => (if t197 = t198 then (if bt195.2 = true then ((ieee_Class.f k t182).bind fun t199 => (if ((bt195.1 == 0) == (t199 == 0)) = true then ((tilefarmlaw6_sane.f k).bind fun t200 => (some t200)) else (some false))) else ((tilefarmlaw6_sane.f k).bind fun t201 => (some t201))) else (some false)))) else (some false)) else (some false)) else (some false)) else (some false)) else (some false)))))) = some r := H
  have A6 := Aside0.mk A60
  clear A60
  replace H := Option.bind_eq_some_iff.mp H
  obtain ⟨⟨t187, t188⟩, A70, H⟩ := H
  replace H : ((ieee_Parts.f k t182).bind fun bt189 => ((ieee_Parts.f k (Go.bits .xor .u64 t182 9223372036854775808)).bind fun bt192 => ((ieee_Compare.f k t182 (Go.bits .xor .u64 t182 9223372036854775808)).bind fun bt195 => (if t185 = (wrap64 (-t187)) then (if t186 = t188 then (if bt189.1 = (wrap64 (-bt192.1)) then (if bt189.2.1 = bt192.2.1 then (if (bt189.2.2 == bt192.2.2) = true then ((ieee_Class.f k t182).bind fun t197 => ((ieee_Class.f k (Go.bits .xor .u64 t182 9223372036854775808)).bind fun t198 => (if t197 = t198 then (if bt195.2 = true then ((ieee_Class.f k t182).bind fun t199 => (if ((bt195.1 == 0) == (t199 == 0)) = true then ((tilefarmlaw6_sane.f k).bind fun t200 => (some t200)) else (some false))) else ((tilefarmlaw6_sane.f k).bind fun t201 => (some t201))) else (some false)))) else (some false)) else (some false)) else (some false)) else (some false)) else (some false))))) = some r := H
  have A7 := Aside0.mk A70
  clear A70
  replace H := Option.bind_eq_some_iff.mp H
  obtain ⟨⟨t189, t190, t191⟩, A80, H⟩ := H
  replace H : ((ieee_Parts.f k (Go.bits .xor .u64 t182 9223372036854775808)).bind fun bt192 => ((ieee_Compare.f k t182 (Go.bits .xor .u64 t182 9223372036854775808)).bind fun bt195 => (if t185 = (wrap64 (-t187)) then (if t186 = t188 then (if t189 = (wrap64 (-bt192.1)) then (if t190 = bt192.2.1 then (if (t191 == bt192.2.2) = true then ((ieee_Class.f k t182).bind fun t197 => ((ieee_Class.f k (Go.bits .xor .u64 t182 9223372036854775808)).bind fun t198 => (if t197 = t198 then (if bt195.2 = true then ((ieee_Class.f k t182).bind fun t199 => (if ((bt195.1 == 0) == (t199 == 0)) = true then ((tilefarmlaw6_sane.f k).bind fun t200 => (some t200)) else (some false))) else ((tilefarmlaw6_sane.f k).bind fun t201 => (some t201))) else (some false)))) else (some false)) else (some false)) else (some false)) else (some false)) else (some false)))) = some r := H
  have A8 := Aside0.mk A80
  clear A80
  replace H := Option.bind_eq_some_iff.mp H
  obtain ⟨⟨t192, t193, t194⟩, A90, H⟩ := H
  replace H : ((ieee_Compare.f k t182 (Go.bits .xor .u64 t182 9223372036854775808)).bind fun bt195 => (if t185 = (wrap64 (-t187)) then (if t186 = t188 then (if t189 = (wrap64 (-t192)) then (if t190 = t193 then (if (t191 == t194) = true then ((ieee_Class.f k t182).bind fun t197 => ((ieee_Class.f k (Go.bits .xor .u64 t182 9223372036854775808)).bind fun t198 => (if t197 = t198 then (if bt195.2 = true then ((ieee_Class.f k t182).bind fun t199 => (if ((bt195.1 == 0) == (t199 == 0)) = true then ((tilefarmlaw6_sane.f k).bind fun t200 => (some t200)) else (some false))) else ((tilefarmlaw6_sane.f k).bind fun t201 => (some t201))) else (some false)))) else (some false)) else (some false)) else (some false)) else (some false)) else (some false))) = some r := H
  have A9 := Aside0.mk A90
  clear A90
  replace H := Option.bind_eq_some_iff.mp H
  obtain ⟨⟨t195, t196⟩, A100, H⟩ := H
  replace H : (if t185 = (wrap64 (-t187)) then (if t186 = t188 then (if t189 = (wrap64 (-t192)) then (if t190 = t193 then (if (t191 == t194) = true then ((ieee_Class.f k t182).bind fun t197 => ((ieee_Class.f k (Go.bits .xor .u64 t182 9223372036854775808)).bind fun t198 => (if t197 = t198 then (if t196 = true then ((ieee_Class.f k t182).bind fun t199 => (if ((t195 == 0) == (t199 == 0)) = true then ((tilefarmlaw6_sane.f k).bind fun t200 => (some t200)) else (some false))) else ((tilefarmlaw6_sane.f k).bind fun t201 => (some t201))) else (some false)))) else (some false)) else (some false)) else (some false)) else (some false)) else (some false)) = some r := H
  have A10 := Aside0.mk A100
  clear A100
  by_cases c11 : t185 = (wrap64 (-t187))
  · rw [if_pos c11] at H
    have c11b0 : (t185 == (wrap64 (-t187))) = true := beq_iff_eq.mpr c11
    have c11b1 : (t185 != (wrap64 (-t187))) = false := bne_eq_false_iff_eq.mpr c11
    clear c11
    by_cases c12 : t186 = t188
    · rw [if_pos c12] at H
      have c12b0 : (t186 == t188) = true := beq_iff_eq.mpr c12
      have c12b1 : (t186 != t188) = false := bne_eq_false_iff_eq.mpr c12
      clear c12
      by_cases c13 : t189 = (wrap64 (-t192))
      · rw [if_pos c13] at H
        have c13b0 : (t189 == (wrap64 (-t192))) = true := beq_iff_eq.mpr c13
        have c13b1 : (t189 != (wrap64 (-t192))) = false := bne_eq_false_iff_eq.mpr c13
        clear c13
        by_cases c14 : t190 = t193
        · rw [if_pos c14] at H
          have c14b0 : (t190 == t193) = true := beq_iff_eq.mpr c14
          have c14b1 : (t190 != t193) = false := bne_eq_false_iff_eq.mpr c14
          clear c14
          by_cases c15 : (t191 == t194) = true
          · rw [if_pos c15] at H
            have c15b0 : (t191 == t194) = true := c15
            (try (have c15b1 : decide (t191 = t194) = true := by simpa using c15))
            (try (have c15b2 : (t191 == t194) = true := by simpa using c15))
            clear c15
            replace H := Option.bind_eq_some_iff.mp H
            obtain ⟨t197, A160, H⟩ := H
            replace H : ((ieee_Class.f k (Go.bits .xor .u64 t182 9223372036854775808)).bind fun t198 => (if t197 = t198 then (if t196 = true then ((ieee_Class.f k t182).bind fun t199 => (if ((t195 == 0) == (t199 == 0)) = true then ((tilefarmlaw6_sane.f k).bind fun t200 => (some t200)) else (some false))) else ((tilefarmlaw6_sane.f k).bind fun t201 => (some t201))) else (some false))) = some r := H
            have A16 := Aside0.mk A160
            clear A160
            replace H := Option.bind_eq_some_iff.mp H
            obtain ⟨t198, A170, H⟩ := H
            replace H : (if t197 = t198 then (if t196 = true then ((ieee_Class.f k t182).bind fun t199 => (if ((t195 == 0) == (t199 == 0)) = true then ((tilefarmlaw6_sane.f k).bind fun t200 => (some t200)) else (some false))) else ((tilefarmlaw6_sane.f k).bind fun t201 => (some t201))) else (some false)) = some r := H
            have A17 := Aside0.mk A170
            clear A170
            by_cases c18 : t197 = t198
            · rw [if_pos c18] at H
              have c18b0 : (t197 == t198) = true := beq_iff_eq.mpr c18
              have c18b1 : (t197 != t198) = false := bne_eq_false_iff_eq.mpr c18
              clear c18
              by_cases c19 : t196 = true
              · subst c19
                have H1 : ((ieee_Class.f k t182).bind fun t199 => (if ((t195 == 0) == (t199 == 0)) = true then ((tilefarmlaw6_sane.f k).bind fun t200 => (some t200)) else (some false))) = some r := by rw [if_pos rfl] at H; exact H
                clear H
                have H := H1
                clear H1
                replace H := Option.bind_eq_some_iff.mp H
                obtain ⟨t199, A200, H⟩ := H
                replace H : (if ((t195 == 0) == (t199 == 0)) = true then ((tilefarmlaw6_sane.f k).bind fun t200 => (some t200)) else (some false)) = some r := H
                have A20 := Aside0.mk A200
                clear A200
                by_cases c21 : ((t195 == 0) == (t199 == 0)) = true
                · rw [if_pos c21] at H
                  have c21b0 : ((t195 == 0) == (t199 == 0)) = true := c21
                  (try (have c21b1 : decide ((t195 == 0) = (t199 == 0)) = true := by simpa using c21))
                  (try (have c21b2 : ((t195 == 0) == (t199 == 0)) = true := by simpa using c21))
                  clear c21
                  replace H := Option.bind_eq_some_iff.mp H
                  obtain ⟨t200, A220, H⟩ := H
                  replace H : (some t200) = some r := H
                  have A22 := Aside0.mk A220
                  clear A220
                  obtain rfl := Option.some.inj H
                  go_enter Try.func7, Try.ntmps7
                  have e_same : t197 = t199 := Option.some.inj (A16.out.symm.trans A20.out)
                  subst e_same
                  go_wp2_with (first | ((with_reducible refine gate_callee (f := 8) rfl ?_); refine goesL_ (some 21) rfl rfl Try.func8 (by kernel_rfl) rfl #[.slice A0 l0.length c0] rfl (by (try simp only [List.map_toArray, List.map_cons, List.map_nil]); first | done | rfl | (simp only [List.length_drop, List.length_take]; rfl)) ?_; (with_reducible refine (tilefarmgen_New.calls _ _ l0 t179 t180 w _ ?side1 ?side2 ?side3 A3.out).mono ?_); (case side1 => repeat (first | (with_reducible first | exact HB.out | apply below_alloc | apply pw_below_drewN | apply below_drew1) | exact HB.out)); (case side2 => exact HR0.out); (case side3 => exact HC0.out); rintro e w23 ⟨g181, rfl, hi, hb, hb2⟩; refine ⟨_, rfl, ?_⟩; have n0_ := Aside0.mk (hb); have n1_ := Aside0.mk (hi); clear HB; have HB := n0_; have HI181 := n1_; clear n0_ n1_; (try clear hb); (try clear hb2); (try clear hk); (try clear hi)) | ((with_reducible refine gate_callee (f := 9) rfl ?_); refine goesL_ (some 23) rfl rfl Try.func9 (by kernel_rfl) rfl #[.pointer (some ⟨g181, 0, none⟩)] rfl (by (try simp only [List.map_toArray, List.map_cons, List.map_nil]); first | done | rfl | (simp only [List.length_drop, List.length_take]; rfl)) ?_; (with_reducible refine (tilefarmgen_Tape_Bits.calls g181 t179 t180 t182 t183 w _ ?side1 ?side2 A4.out).mono ?_); (case side1 => repeat (first | (with_reducible first | exact HI181.out | apply IsS49.alloc | apply IsS49.drewN | apply IsS49.drew | apply IsS49.set_1) | exact HI181.out)); (case side2 => repeat (first | (with_reducible first | exact HB.out | apply below_alloc | apply pw_below_drewN | apply below_drew1 | refine below_set ?_ (IsS49.ge HI181.out)) | exact HB.out)); rintro e w24 ⟨rfl, hi, hb, hk⟩; refine ⟨_, rfl, ?_⟩; have n0_ := Aside0.mk (hb); have n1_ := Aside0.mk (hi); clear HB; clear HI181; have HB := n0_; have HI181 := n1_; clear n0_ n1_; (try clear hb); (try clear hb2); (try clear hk); (try clear hi)) | ((with_reducible refine gate_callee (f := 11) rfl ?_); refine goesL_ (some 25) rfl rfl Try.func11 (by kernel_rfl) rfl #[.int .i64 a1, .int .i64 25] rfl (by (try simp only [List.map_toArray, List.map_cons, List.map_nil]); first | done | rfl | (simp only [List.length_drop, List.length_take]; rfl)) ?_; (with_reducible refine (tilefarmgen_Mod.calls a1 25 t184 _ A5.out).mono ?_); rintro e w' ⟨rfl, ⟨nd, rfl⟩⟩; refine ⟨_, rfl, ?_⟩) | ((with_reducible refine gate_callee (f := 12) rfl ?_); refine goesL_ (some 29) rfl rfl Try.func12 (by kernel_rfl) rfl #[.int .u64 t182, .int .i64 t184] rfl (by (try simp only [List.map_toArray, List.map_cons, List.map_nil]); first | done | rfl | (simp only [List.length_drop, List.length_take]; rfl)) ?_; (with_reducible refine (ieee_Scale.calls k t182 t184 t185 t186 _ A6.out).mono ?_); rintro e w25 ⟨rfl, hb⟩; refine ⟨_, rfl, ?_⟩; have n0_ := Aside0.mk (IsS49.below (by repeat (first | (with_reducible first | exact HI181.out | apply IsS49.alloc | apply IsS49.drewN | apply IsS49.drew | apply IsS49.set_1) | exact HI181.out)) hb); have n1_ := Aside0.mk (below_step (by repeat (first | (with_reducible first | exact HB.out | apply below_alloc | apply pw_below_drewN | apply below_drew1 | refine below_set ?_ (IsS49.ge HI181.out)) | exact HB.out)) hb); clear HI181; clear HB; have HI181 := n0_; have HB := n1_; clear n0_ n1_; (try clear hb); (try clear hb2); (try clear hk); (try clear hi)) | ((with_reducible refine gate_callee (f := 12) rfl ?_); refine goesL_ (some 36) rfl rfl Try.func12 (by kernel_rfl) rfl #[.int .u64 (Go.bits .xor .u64 t182 9223372036854775808), .int .i64 t184] rfl (by (try simp only [List.map_toArray, List.map_cons, List.map_nil]); first | done | rfl | (simp only [List.length_drop, List.length_take]; rfl)) ?_; (with_reducible refine (ieee_Scale.calls k (Go.bits .xor .u64 t182 9223372036854775808) t184 t187 t188 _ A7.out).mono ?_); rintro e w26 ⟨rfl, hb⟩; refine ⟨_, rfl, ?_⟩; have n0_ := Aside0.mk (IsS49.below (by repeat (first | (with_reducible first | exact HI181.out | apply IsS49.alloc | apply IsS49.drewN | apply IsS49.drew | apply IsS49.set_1) | exact HI181.out)) hb); have n1_ := Aside0.mk (below_step (by repeat (first | (with_reducible first | exact HB.out | apply below_alloc | apply pw_below_drewN | apply below_drew1 | refine below_set ?_ (IsS49.ge HI181.out)) | exact HB.out)) hb); clear HI181; clear HB; have HI181 := n0_; have HB := n1_; clear n0_ n1_; (try clear hb); (try clear hb2); (try clear hk); (try clear hi)) | ((with_reducible refine gate_callee (f := 19) rfl ?_); refine goesL_ (some 41) rfl rfl Try.func19 (by kernel_rfl) rfl #[.int .u64 t182] rfl (by (try simp only [List.map_toArray, List.map_cons, List.map_nil]); first | done | rfl | (simp only [List.length_drop, List.length_take]; rfl)) ?_; (with_reducible refine (ieee_Parts.calls k t182 t189 t190 t191 _ A8.out).mono ?_); rintro e w' ⟨rfl, ⟨nd, rfl⟩⟩; refine ⟨_, rfl, ?_⟩) | ((with_reducible refine gate_callee (f := 19) rfl ?_); refine goesL_ (some 48) rfl rfl Try.func19 (by kernel_rfl) rfl #[.int .u64 (Go.bits .xor .u64 t182 9223372036854775808)] rfl (by (try simp only [List.map_toArray, List.map_cons, List.map_nil]); first | done | rfl | (simp only [List.length_drop, List.length_take]; rfl)) ?_; (with_reducible refine (ieee_Parts.calls k (Go.bits .xor .u64 t182 9223372036854775808) t192 t193 t194 _ A9.out).mono ?_); rintro e w' ⟨rfl, ⟨nd, rfl⟩⟩; refine ⟨_, rfl, ?_⟩) | ((with_reducible refine gate_callee (f := 23) rfl ?_); refine goesL_ (some 56) rfl rfl Try.func23 (by kernel_rfl) rfl #[.int .u64 t182, .int .u64 (Go.bits .xor .u64 t182 9223372036854775808)] rfl (by (try simp only [List.map_toArray, List.map_cons, List.map_nil]); first | done | rfl | (simp only [List.length_drop, List.length_take]; rfl)) ?_; (with_reducible refine (ieee_Compare.calls k t182 (Go.bits .xor .u64 t182 9223372036854775808) t195 true _ A10.out).mono ?_); rintro e w' ⟨rfl, ⟨nd, rfl⟩⟩; refine ⟨_, rfl, ?_⟩) | (go_at_call 21; (with_reducible refine (ieee_Class.calls k t182 t197 _ A16.out).mono ?_); rintro e w' ⟨rfl, ⟨nd, rfl⟩⟩) | (go_at_call 21; (with_reducible refine (ieee_Class.calls k (Go.bits .xor .u64 t182 9223372036854775808) t198 _ A17.out).mono ?_); rintro e w' ⟨rfl, ⟨nd, rfl⟩⟩) | (go_at_call 21; (with_reducible refine (ieee_Class.calls k t182 t197 _ A20.out).mono ?_); rintro e w' ⟨rfl, ⟨nd, rfl⟩⟩) | (go_at_call 14; (with_reducible refine (tilefarmlaw6_sane.calls k  t200 _ A22.out).mono ?_); rintro e w27 ⟨rfl, hb⟩; have n0_ := Aside0.mk (IsS49.below (by repeat (first | (with_reducible first | exact HI181.out | apply IsS49.alloc | apply IsS49.drewN | apply IsS49.drew | apply IsS49.set_1) | exact HI181.out)) hb); have n1_ := Aside0.mk (below_step (by repeat (first | (with_reducible first | exact HB.out | apply below_alloc | apply pw_below_drewN | apply below_drew1 | refine below_set ?_ (IsS49.ge HI181.out)) | exact HB.out)) hb); clear HI181; clear HB; have HI181 := n0_; have HB := n1_; clear n0_ n1_; (try clear hb); (try clear hb2); (try clear hk); (try clear hi)))
                  go_ret
                  exact ⟨by first | rfl | (simp [errW_none, errW_some] <;> rfl) | (simp [*, errW_none, errW_some] <;> rfl), by repeat (first | (with_reducible first | exact HB.out | apply below_alloc | apply pw_below_drewN | apply below_drew1 | refine below_set ?_ (IsS49.ge HI181.out)) | exact HB.out)⟩
                · rw [if_neg c21] at H
                  have c21b0 : ((t195 == 0) == (t199 == 0)) = false := by simpa using c21
                  (try (have c21b1 : decide ((t195 == 0) = (t199 == 0)) = false := by simpa using c21))
                  (try (have c21b2 : ((t195 == 0) == (t199 == 0)) = false := by simpa using c21))
                  (try (have c21b3 : ¬ ((t195 == 0) = (t199 == 0)) := by simpa using c21))
                  clear c21
                  exact absurd ((Option.some.inj H).trans HT.out) (by decide)
              · replace c19 := Bool.eq_false_iff.mpr c19
                subst c19
                have H1 : ((tilefarmlaw6_sane.f k).bind fun t201 => (some t201)) = some r := by rw [if_neg (show ¬ (false = true) by decide)] at H; exact H
                clear H
                have H := H1
                clear H1
                replace H := Option.bind_eq_some_iff.mp H
                obtain ⟨t201, A280, H⟩ := H
                replace H : (some t201) = some r := H
                have A28 := Aside0.mk A280
                clear A280
                obtain rfl := Option.some.inj H
                go_enter Try.func7, Try.ntmps7
                go_wp2_with (first | ((with_reducible refine gate_callee (f := 8) rfl ?_); refine goesL_ (some 21) rfl rfl Try.func8 (by kernel_rfl) rfl #[.slice A0 l0.length c0] rfl (by (try simp only [List.map_toArray, List.map_cons, List.map_nil]); first | done | rfl | (simp only [List.length_drop, List.length_take]; rfl)) ?_; (with_reducible refine (tilefarmgen_New.calls _ _ l0 t179 t180 w _ ?side1 ?side2 ?side3 A3.out).mono ?_); (case side1 => repeat (first | (with_reducible first | exact HB.out | apply below_alloc | apply pw_below_drewN | apply below_drew1) | exact HB.out)); (case side2 => exact HR0.out); (case side3 => exact HC0.out); rintro e w29 ⟨g181, rfl, hi, hb, hb2⟩; refine ⟨_, rfl, ?_⟩; have n0_ := Aside0.mk (hb); have n1_ := Aside0.mk (hi); clear HB; have HB := n0_; have HI181 := n1_; clear n0_ n1_; (try clear hb); (try clear hb2); (try clear hk); (try clear hi)) | ((with_reducible refine gate_callee (f := 9) rfl ?_); refine goesL_ (some 23) rfl rfl Try.func9 (by kernel_rfl) rfl #[.pointer (some ⟨g181, 0, none⟩)] rfl (by (try simp only [List.map_toArray, List.map_cons, List.map_nil]); first | done | rfl | (simp only [List.length_drop, List.length_take]; rfl)) ?_; (with_reducible refine (tilefarmgen_Tape_Bits.calls g181 t179 t180 t182 t183 w _ ?side1 ?side2 A4.out).mono ?_); (case side1 => repeat (first | (with_reducible first | exact HI181.out | apply IsS49.alloc | apply IsS49.drewN | apply IsS49.drew | apply IsS49.set_1) | exact HI181.out)); (case side2 => repeat (first | (with_reducible first | exact HB.out | apply below_alloc | apply pw_below_drewN | apply below_drew1 | refine below_set ?_ (IsS49.ge HI181.out)) | exact HB.out)); rintro e w30 ⟨rfl, hi, hb, hk⟩; refine ⟨_, rfl, ?_⟩; have n0_ := Aside0.mk (hb); have n1_ := Aside0.mk (hi); clear HB; clear HI181; have HB := n0_; have HI181 := n1_; clear n0_ n1_; (try clear hb); (try clear hb2); (try clear hk); (try clear hi)) | ((with_reducible refine gate_callee (f := 11) rfl ?_); refine goesL_ (some 25) rfl rfl Try.func11 (by kernel_rfl) rfl #[.int .i64 a1, .int .i64 25] rfl (by (try simp only [List.map_toArray, List.map_cons, List.map_nil]); first | done | rfl | (simp only [List.length_drop, List.length_take]; rfl)) ?_; (with_reducible refine (tilefarmgen_Mod.calls a1 25 t184 _ A5.out).mono ?_); rintro e w' ⟨rfl, ⟨nd, rfl⟩⟩; refine ⟨_, rfl, ?_⟩) | ((with_reducible refine gate_callee (f := 12) rfl ?_); refine goesL_ (some 29) rfl rfl Try.func12 (by kernel_rfl) rfl #[.int .u64 t182, .int .i64 t184] rfl (by (try simp only [List.map_toArray, List.map_cons, List.map_nil]); first | done | rfl | (simp only [List.length_drop, List.length_take]; rfl)) ?_; (with_reducible refine (ieee_Scale.calls k t182 t184 t185 t186 _ A6.out).mono ?_); rintro e w31 ⟨rfl, hb⟩; refine ⟨_, rfl, ?_⟩; have n0_ := Aside0.mk (IsS49.below (by repeat (first | (with_reducible first | exact HI181.out | apply IsS49.alloc | apply IsS49.drewN | apply IsS49.drew | apply IsS49.set_1) | exact HI181.out)) hb); have n1_ := Aside0.mk (below_step (by repeat (first | (with_reducible first | exact HB.out | apply below_alloc | apply pw_below_drewN | apply below_drew1 | refine below_set ?_ (IsS49.ge HI181.out)) | exact HB.out)) hb); clear HI181; clear HB; have HI181 := n0_; have HB := n1_; clear n0_ n1_; (try clear hb); (try clear hb2); (try clear hk); (try clear hi)) | ((with_reducible refine gate_callee (f := 12) rfl ?_); refine goesL_ (some 36) rfl rfl Try.func12 (by kernel_rfl) rfl #[.int .u64 (Go.bits .xor .u64 t182 9223372036854775808), .int .i64 t184] rfl (by (try simp only [List.map_toArray, List.map_cons, List.map_nil]); first | done | rfl | (simp only [List.length_drop, List.length_take]; rfl)) ?_; (with_reducible refine (ieee_Scale.calls k (Go.bits .xor .u64 t182 9223372036854775808) t184 t187 t188 _ A7.out).mono ?_); rintro e w32 ⟨rfl, hb⟩; refine ⟨_, rfl, ?_⟩; have n0_ := Aside0.mk (IsS49.below (by repeat (first | (with_reducible first | exact HI181.out | apply IsS49.alloc | apply IsS49.drewN | apply IsS49.drew | apply IsS49.set_1) | exact HI181.out)) hb); have n1_ := Aside0.mk (below_step (by repeat (first | (with_reducible first | exact HB.out | apply below_alloc | apply pw_below_drewN | apply below_drew1 | refine below_set ?_ (IsS49.ge HI181.out)) | exact HB.out)) hb); clear HI181; clear HB; have HI181 := n0_; have HB := n1_; clear n0_ n1_; (try clear hb); (try clear hb2); (try clear hk); (try clear hi)) | ((with_reducible refine gate_callee (f := 19) rfl ?_); refine goesL_ (some 41) rfl rfl Try.func19 (by kernel_rfl) rfl #[.int .u64 t182] rfl (by (try simp only [List.map_toArray, List.map_cons, List.map_nil]); first | done | rfl | (simp only [List.length_drop, List.length_take]; rfl)) ?_; (with_reducible refine (ieee_Parts.calls k t182 t189 t190 t191 _ A8.out).mono ?_); rintro e w' ⟨rfl, ⟨nd, rfl⟩⟩; refine ⟨_, rfl, ?_⟩) | ((with_reducible refine gate_callee (f := 19) rfl ?_); refine goesL_ (some 48) rfl rfl Try.func19 (by kernel_rfl) rfl #[.int .u64 (Go.bits .xor .u64 t182 9223372036854775808)] rfl (by (try simp only [List.map_toArray, List.map_cons, List.map_nil]); first | done | rfl | (simp only [List.length_drop, List.length_take]; rfl)) ?_; (with_reducible refine (ieee_Parts.calls k (Go.bits .xor .u64 t182 9223372036854775808) t192 t193 t194 _ A9.out).mono ?_); rintro e w' ⟨rfl, ⟨nd, rfl⟩⟩; refine ⟨_, rfl, ?_⟩) | ((with_reducible refine gate_callee (f := 23) rfl ?_); refine goesL_ (some 56) rfl rfl Try.func23 (by kernel_rfl) rfl #[.int .u64 t182, .int .u64 (Go.bits .xor .u64 t182 9223372036854775808)] rfl (by (try simp only [List.map_toArray, List.map_cons, List.map_nil]); first | done | rfl | (simp only [List.length_drop, List.length_take]; rfl)) ?_; (with_reducible refine (ieee_Compare.calls k t182 (Go.bits .xor .u64 t182 9223372036854775808) t195 false _ A10.out).mono ?_); rintro e w' ⟨rfl, ⟨nd, rfl⟩⟩; refine ⟨_, rfl, ?_⟩) | (go_at_call 21; (with_reducible refine (ieee_Class.calls k t182 t197 _ A16.out).mono ?_); rintro e w' ⟨rfl, ⟨nd, rfl⟩⟩) | (go_at_call 21; (with_reducible refine (ieee_Class.calls k (Go.bits .xor .u64 t182 9223372036854775808) t198 _ A17.out).mono ?_); rintro e w' ⟨rfl, ⟨nd, rfl⟩⟩) | (go_at_call 14; (with_reducible refine (tilefarmlaw6_sane.calls k  t201 _ A28.out).mono ?_); rintro e w33 ⟨rfl, hb⟩; have n0_ := Aside0.mk (IsS49.below (by repeat (first | (with_reducible first | exact HI181.out | apply IsS49.alloc | apply IsS49.drewN | apply IsS49.drew | apply IsS49.set_1) | exact HI181.out)) hb); have n1_ := Aside0.mk (below_step (by repeat (first | (with_reducible first | exact HB.out | apply below_alloc | apply pw_below_drewN | apply below_drew1 | refine below_set ?_ (IsS49.ge HI181.out)) | exact HB.out)) hb); clear HI181; clear HB; have HI181 := n0_; have HB := n1_; clear n0_ n1_; (try clear hb); (try clear hb2); (try clear hk); (try clear hi)))
                go_ret
                exact ⟨by first | rfl | (simp [errW_none, errW_some] <;> rfl) | (simp [*, errW_none, errW_some] <;> rfl), by repeat (first | (with_reducible first | exact HB.out | apply below_alloc | apply pw_below_drewN | apply below_drew1 | refine below_set ?_ (IsS49.ge HI181.out)) | exact HB.out)⟩
            · rw [if_neg c18] at H
              have c18b0 : (t197 == t198) = false := beq_eq_false_iff_ne.mpr c18
              have c18b1 : (t197 != t198) = true := bne_iff_ne.mpr c18
              exact absurd ((Option.some.inj H).trans HT.out) (by decide)
          · rw [if_neg c15] at H
            have c15b0 : (t191 == t194) = false := by simpa using c15
            (try (have c15b1 : decide (t191 = t194) = false := by simpa using c15))
            (try (have c15b2 : (t191 == t194) = false := by simpa using c15))
            (try (have c15b3 : ¬ (t191 = t194) := by simpa using c15))
            clear c15
            exact absurd ((Option.some.inj H).trans HT.out) (by decide)
        · rw [if_neg c14] at H
          have c14b0 : (t190 == t193) = false := beq_eq_false_iff_ne.mpr c14
          have c14b1 : (t190 != t193) = true := bne_iff_ne.mpr c14
          exact absurd ((Option.some.inj H).trans HT.out) (by decide)
      · rw [if_neg c13] at H
        have c13b0 : (t189 == (wrap64 (-t192))) = false := beq_eq_false_iff_ne.mpr c13
        have c13b1 : (t189 != (wrap64 (-t192))) = true := bne_iff_ne.mpr c13
        exact absurd ((Option.some.inj H).trans HT.out) (by decide)
    · rw [if_neg c12] at H
      have c12b0 : (t186 == t188) = false := beq_eq_false_iff_ne.mpr c12
      have c12b1 : (t186 != t188) = true := bne_iff_ne.mpr c12
      exact absurd ((Option.some.inj H).trans HT.out) (by decide)
  · rw [if_neg c11] at H
    have c11b0 : (t185 == (wrap64 (-t187))) = false := beq_eq_false_iff_ne.mpr c11
    have c11b1 : (t185 != (wrap64 (-t187))) = true := bne_iff_ne.mpr c11
    exact absurd ((Option.some.inj H).trans HT.out) (by decide)

/-- THE ONE PURE STATEMENT of tilefarmlaw6_IeeeSigns: yours. -/
def tilefarmlaw6_IeeeSigns.Pure : Prop := ∀ (l0 : List Int) (a1 : Int), l0.length ≤ maxLen → l0.length * 8 ≤ 140737488351232 → (∀ x ∈ l0, (Lit.int .i64 x).wf = true) → (Lit.int .i64 a1).wf = true → ∃ k, tilefarmlaw6_IeeeSigns.f k l0 a1 = some true
theorem tilefarmlaw6_IeeeSigns.walk (P : tilefarmlaw6_IeeeSigns.Pure) (a0 : Option Addr) (len0 cap0 : Nat) (z0 : List Int) (a1 : Int) (w : World) (w0 : (a0 = none ∧ len0 = 0 ∧ cap0 = 0 ∧ z0 = []) ∨ ∃ x, a0 = some x ∧ len0 ≤ cap0 ∧ cap0 ≤ maxLen ∧ z0.length = cap0 ∧ (∀ i, i < z0.length → w.cell? (x.add i) = some (.int .i64 (z0.getD i 0))) ∧ ∀ n ∈ z0, (Lit.int .i64 n).wf = true) (y0 : len0 * 8 ≤ 140737488351232) (w1 : (Lit.int .i64 a1).wf = true) :
    Calls Try.prog 7 #[.slice a0 len0 cap0, .int .i64 a1] w fun e w' => e = .returned (.bool true) ∧ Below w.heap.size w w' := by
  obtain ⟨l0, rfl, hr0, hm0, hw0, hc0⟩ := ReadsInt.ofRowC w0
  obtain ⟨k, h⟩ := P l0 a1 hm0 y0 hw0 w1
  refine (tilefarmlaw6_IeeeSigns.calls k _ _ l0 a1 true w (Kd.C_of_reads (d := (0 : Int)) (h1 := fun _ => rfl) hr0) hc0 h).mono ?_
  rintro e w' ⟨rfl, hd⟩
  exact ⟨rfl, hd⟩

end Go.Proofs.Ytoamkepelnphaaa.PIeeeSigns
