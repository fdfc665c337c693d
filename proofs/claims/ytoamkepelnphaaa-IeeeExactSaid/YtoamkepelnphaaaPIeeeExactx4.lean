-- Written by a program of the session (wip/tools/myprint.py) over the kit's printer; checked by Lean.
import Derived.Test.YtoamkepelnphaaaPIeeeExactx0
import Derived.Test.YtoamkepelnphaaaPIeeeExactx1
import Derived.Test.YtoamkepelnphaaaPIeeeExactx2
import Derived.Test.YtoamkepelnphaaaPIeeeExactx3
namespace Go.Proofs.Ytoamkepelnphaaa.PIeeeExact
open Go.RowKit Go.Proofs.YtoamkepelnphaaaW.PrintWords Go.Proofs.YtoamkepelnphaaaW.PrintLast Go.Proofs.YtoamkepelnphaaaW.PrintMore
attribute [local go_sem] max2_int min2_int max_two min_two max_three min_three max_four min_four   -- for this text's walks alone
set_option linter.unusedVariables false
set_option linter.unusedSimpArgs false

/-! ### tilefarmlaw6_IeeeExact: function 6 -/
mutual
def tilefarmlaw6_IeeeExact.j0 : Nat → Int → Int → Int → Int → Int → Bool → Bool → Option (Bool)
  | 0, _, _, _, _, _, _, _ => none
  | k + 1, x6, x7, x8, x9, x10, x11, x52 => if x52 = true then (some false) else ((ieee_Scale.f k x6 x8).bind fun bt191 => ((ieee_Scale.f k x7 x8).bind fun bt193 => ((ieee_Compare.f k x6 x7).bind fun bt195 => (if bt191.2 = 0 then (if bt193.2 = 0 then (if bt195.2 = true then (if bt195.1 ≤ 0 then (if bt191.1 > bt193.1 then (tilefarmlaw6_IeeeExact.j1 k x8 x9 x10 x11 bt191.1 bt191.2 true) else (if bt195.1 ≥ 0 then (tilefarmlaw6_IeeeExact.j1 k x8 x9 x10 x11 bt191.1 bt191.2 (decide (bt191.1 < bt193.1))) else (tilefarmlaw6_IeeeExact.j1 k x8 x9 x10 x11 bt191.1 bt191.2 false))) else (if bt195.1 ≥ 0 then (tilefarmlaw6_IeeeExact.j1 k x8 x9 x10 x11 bt191.1 bt191.2 (decide (bt191.1 < bt193.1))) else (tilefarmlaw6_IeeeExact.j1 k x8 x9 x10 x11 bt191.1 bt191.2 false))) else (tilefarmlaw6_IeeeExact.j1 k x8 x9 x10 x11 bt191.1 bt191.2 true)) else (tilefarmlaw6_IeeeExact.j1 k x8 x9 x10 x11 bt191.1 bt191.2 false)) else (tilefarmlaw6_IeeeExact.j1 k x8 x9 x10 x11 bt191.1 bt191.2 false)))))
def tilefarmlaw6_IeeeExact.j1 : Nat → Int → Int → Int → Bool → Int → Int → Bool → Option (Bool)
  | 0, _, _, _, _, _, _, _ => none
  | k + 1, x8, x9, x10, x11, x12, x13, x98 => if x98 = true then (some false) else (if x11 = true then (if x13 = 0 then (if x10 ≥ 0 then (if (wrap64 (x10 + x8)) < 16 then (if 0 ≤ (IntKind.u64.wrap (wrap64 (x10 + x8))) then (if x12 = (shl .i64 x9 (IntKind.u64.wrap (wrap64 (x10 + x8)))) then ((tilefarmlaw6_sane.f k).bind fun t197 => (some t197)) else (some false)) else (none)) else ((tilefarmlaw6_sane.f k).bind fun t198 => (some t198))) else ((tilefarmlaw6_sane.f k).bind fun t199 => (some t199))) else ((tilefarmlaw6_sane.f k).bind fun t200 => (some t200))) else (if x13 = 1 then ((tilefarmlaw6_sane.f k).bind fun t201 => (some t201)) else (some false)))
end
def tilefarmlaw6_IeeeExact.f (k : Nat) (l0 : List Int) (a1 : Int) : Option (Bool) := (tilefarmgen_New.f l0).bind fun bt179 => ((tilefarmgen_Tape_Bits.f bt179.1 bt179.2).bind fun bt182 => ((tilefarmgen_Tape_Bits.f bt179.1 bt182.2).bind fun bt184 => ((tilefarmgen_Mod.f a1 25).bind fun t186 => ((ieee_Parts.f k bt182.1).bind fun bt187 => ((ieee_Class.f k bt182.1).bind fun t190 => (if (bt187.2.2 != (decide (t190 ≤ 2))) = true then (tilefarmlaw6_IeeeExact.j0 k bt182.1 bt184.1 t186 bt187.1 bt187.2.1 bt187.2.2 true) else (if bt187.2.2 = true then (if (Int.tmod bt187.1 2) = 0 then (if bt187.1 = 0 then (tilefarmlaw6_IeeeExact.j0 k bt182.1 bt184.1 t186 bt187.1 bt187.2.1 bt187.2.2 (bt187.2.1 != 0)) else (tilefarmlaw6_IeeeExact.j0 k bt182.1 bt184.1 t186 bt187.1 bt187.2.1 bt187.2.2 true)) else (tilefarmlaw6_IeeeExact.j0 k bt182.1 bt184.1 t186 bt187.1 bt187.2.1 bt187.2.2 false)) else (tilefarmlaw6_IeeeExact.j0 k bt182.1 bt184.1 t186 bt187.1 bt187.2.1 bt187.2.2 false))))))))
theorem tilefarmlaw6_IeeeExact.mono_l : ∀ k, (∀ y0 y1 y2 y3 y4 y5 y6, LeO (tilefarmlaw6_IeeeExact.j0 k y0 y1 y2 y3 y4 y5 y6) (tilefarmlaw6_IeeeExact.j0 (k + 1) y0 y1 y2 y3 y4 y5 y6)) ∧ (∀ y0 y1 y2 y3 y4 y5 y6, LeO (tilefarmlaw6_IeeeExact.j1 k y0 y1 y2 y3 y4 y5 y6) (tilefarmlaw6_IeeeExact.j1 (k + 1) y0 y1 y2 y3 y4 y5 y6))
  | 0 => ⟨fun _ _ _ _ _ _ _ r h => by simp [tilefarmlaw6_IeeeExact.j0] at h, fun _ _ _ _ _ _ _ r h => by simp [tilefarmlaw6_IeeeExact.j1] at h⟩
  | k + 1 => by
    obtain ⟨ih0, ih1⟩ := tilefarmlaw6_IeeeExact.mono_l k
    refine ⟨?_, ?_⟩
    · intro y0 y1 y2 y3 y4 y5 y6
      unfold tilefarmlaw6_IeeeExact.j0
      repeat' first
      | (with_reducible exact ih0 _ _ _ _ _ _ _)
      | (with_reducible exact ih1 _ _ _ _ _ _ _)
      | (with_reducible exact ieee_Class.mono _ _)
      | (with_reducible exact ieee_Compare.mono _ _ _)
      | (with_reducible exact ieee_Parts.mono _ _)
      | (with_reducible exact ieee_Scale.mono _ _ _)
      | (with_reducible exact tilefarmlaw6_sane.mono _)
      | (with_reducible exact LeO.refl _)
      | (with_reducible exact LeO.none _)
      | (with_reducible refine LeO.ite ?_ ?_)
      | (with_reducible refine LeO.bind ?_ (fun _ => ?_))
      | exact ih0 _ _ _ _ _ _ _
      | exact ih1 _ _ _ _ _ _ _
      | exact ieee_Class.mono _ _
      | exact ieee_Compare.mono _ _ _
      | exact ieee_Parts.mono _ _
      | exact ieee_Scale.mono _ _ _
      | exact tilefarmlaw6_sane.mono _
      | exact LeO.none _
      | refine LeO.ite ?_ ?_
      | refine LeO.bind ?_ (fun _ => ?_)
    · intro y0 y1 y2 y3 y4 y5 y6
      unfold tilefarmlaw6_IeeeExact.j1
      repeat' first
      | (with_reducible exact ih0 _ _ _ _ _ _ _)
      | (with_reducible exact ih1 _ _ _ _ _ _ _)
      | (with_reducible exact ieee_Class.mono _ _)
      | (with_reducible exact ieee_Compare.mono _ _ _)
      | (with_reducible exact ieee_Parts.mono _ _)
      | (with_reducible exact ieee_Scale.mono _ _ _)
      | (with_reducible exact tilefarmlaw6_sane.mono _)
      | (with_reducible exact LeO.refl _)
      | (with_reducible exact LeO.none _)
      | (with_reducible refine LeO.ite ?_ ?_)
      | (with_reducible refine LeO.bind ?_ (fun _ => ?_))
      | exact ih0 _ _ _ _ _ _ _
      | exact ih1 _ _ _ _ _ _ _
      | exact ieee_Class.mono _ _
      | exact ieee_Compare.mono _ _ _
      | exact ieee_Parts.mono _ _
      | exact ieee_Scale.mono _ _ _
      | exact tilefarmlaw6_sane.mono _
      | exact LeO.none _
      | refine LeO.ite ?_ ?_
      | refine LeO.bind ?_ (fun _ => ?_)
theorem tilefarmlaw6_IeeeExact.mono : ∀ a0 a1 k, LeO (tilefarmlaw6_IeeeExact.f k a0 a1) (tilefarmlaw6_IeeeExact.f (k + 1) a0 a1) := by
  intro a0 a1 k
  obtain ⟨ih0, ih1⟩ := tilefarmlaw6_IeeeExact.mono_l k
  unfold tilefarmlaw6_IeeeExact.f
  repeat' first
      | (with_reducible exact ih0 _ _ _ _ _ _ _)
      | (with_reducible exact ih1 _ _ _ _ _ _ _)
      | (with_reducible exact ieee_Class.mono _ _)
      | (with_reducible exact ieee_Compare.mono _ _ _)
      | (with_reducible exact ieee_Parts.mono _ _)
      | (with_reducible exact ieee_Scale.mono _ _ _)
      | (with_reducible exact tilefarmlaw6_sane.mono _)
      | (with_reducible exact LeO.refl _)
      | (with_reducible exact LeO.none _)
      | (with_reducible refine LeO.ite ?_ ?_)
      | (with_reducible refine LeO.bind ?_ (fun _ => ?_))
      | exact ih0 _ _ _ _ _ _ _
      | exact ih1 _ _ _ _ _ _ _
      | exact ieee_Class.mono _ _
      | exact ieee_Compare.mono _ _ _
      | exact ieee_Parts.mono _ _
      | exact ieee_Scale.mono _ _ _
      | exact tilefarmlaw6_sane.mono _
      | exact LeO.none _
      | refine LeO.ite ?_ ?_
      | refine LeO.bind ?_ (fun _ => ?_)
set_option maxHeartbeats 8000000 in
set_option maxRecDepth 100000 in
theorem tilefarmlaw6_IeeeExact.calls (k : Nat) (A0 : Option Addr) (c0 : Nat) (l0 : List Int) (a1 : Int) (r : Bool) (w : World) (hr0 : Kd.C (Kd.int .i64) w A0 l0.length l0) (hc0 : l0.length ≤ c0) (h : tilefarmlaw6_IeeeExact.f k l0 a1 = some r) (hT : r = true := by first | rfl | assumption | exact HT.out) :
    Calls Try.prog 6 #[.slice A0 l0.length c0, .int .i64 a1] w fun e w' => e = .returned (.bool r) ∧ Below w.heap.size w w' := by
  have HT := Aside0.mk hT
  clear hT
  have HR0 := Aside0.mk hr0
  have HC0 := Aside0.mk hc0
  clear hr0 hc0
  have HB := Aside0.mk (Below.refl w.heap.size w)
  have H : ((tilefarmgen_New.f l0).bind fun bt179 => ((tilefarmgen_Tape_Bits.f bt179.1 bt179.2).bind fun bt182 => ((tilefarmgen_Tape_Bits.f bt179.1 bt182.2).bind fun bt184 => ((tilefarmgen_Mod.f a1 25).bind fun t186 => ((ieee_Parts.f k bt182.1).bind fun bt187 => ((ieee_Class.f k bt182.1).bind fun t190 => (if (bt187.2.2 != (decide (t190 ≤ 2))) = true then (tilefarmlaw6_IeeeExact.j0 k bt182.1 bt184.1 t186 bt187.1 bt187.2.1 bt187.2.2 true) else (if bt187.2.2 = true then (if (Int.tmod bt187.1 2) = 0 then (if bt187.1 = 0 then (tilefarmlaw6_IeeeExact.j0 k bt182.1 bt184.1 t186 bt187.1 bt187.2.1 bt187.2.2 (bt187.2.1 != 0)) else (tilefarmlaw6_IeeeExact.j0 k bt182.1 bt184.1 t186 bt187.1 bt187.2.1 bt187.2.2 true)) else (tilefarmlaw6_IeeeExact.j0 k bt182.1 bt184.1 t186 bt187.1 bt187.2.1 bt187.2.2 false)) else (tilefarmlaw6_IeeeExact.j0 k bt182.1 bt184.1 t186 bt187.1 bt187.2.1 bt187.2.2 false))))))))) = some r := h
  clear h
  replace H := Option.bind_eq_some_iff.mp H
  obtain ⟨⟨t179, t180⟩, A30, H⟩ := H
  replace H : ((tilefarmgen_Tape_Bits.f t179 t180).bind fun bt182 => ((tilefarmgen_Tape_Bits.f t179 bt182.2).bind fun bt184 => ((tilefarmgen_Mod.f a1 25).bind fun t186 => ((ieee_Parts.f k bt182.1).bind fun bt187 => ((ieee_Class.f k bt182.1).bind fun t190 => (if (bt187.2.2 != (decide (t190 ≤ 2))) = true then (tilefarmlaw6_IeeeExact.j0 k bt182.1 bt184.1 t186 bt187.1 bt187.2.1 bt187.2.2 true) else (if bt187.2.2 = true then (if (Int.tmod bt187.1 2) = 0 then (if bt187.1 = 0 then (tilefarmlaw6_IeeeExact.j0 k bt182.1 bt184.1 t186 bt187.1 bt187.2.1 bt187.2.2 (bt187.2.1 != 0)) else (tilefarmlaw6_IeeeExact.j0 k bt182.1 bt184.1 t186 bt187.1 bt187.2.1 bt187.2.2 true)) else (tilefarmlaw6_IeeeExact.j0 k bt182.1 bt184.1 t186 bt187.1 bt187.2.1 bt187.2.2 false)) else (tilefarmlaw6_IeeeExact.j0 k bt182.1 bt184.1 t186 bt187.1 bt187.2.1 bt187.2.2 false)))))))) = some r := H
  have A3 := Aside0.mk A30
  clear A30
  replace H := Option.bind_eq_some_iff.mp H
  obtain ⟨⟨t182, t183⟩, A40, H⟩ := H
  replace H : ((tilefarmgen_Tape_Bits.f t179 t183).bind fun bt184 => ((tilefarmgen_Mod.f a1 25).bind fun t186 => ((ieee_Parts.f k t182).bind fun bt187 => ((ieee_Class.f k t182).bind fun t190 => (if (bt187.2.2 != (decide (t190 ≤ 2))) = true then (tilefarmlaw6_IeeeExact.j0 k t182 bt184.1 t186 bt187.1 bt187.2.1 bt187.2.2 true) else (if bt187.2.2 = true then (if (Int.tmod bt187.1 2) = 0 then (if bt187.1 = 0 then (tilefarmlaw6_IeeeExact.j0 k t182 bt184.1 t186 bt187.1 bt187.2.1 bt187.2.2 (bt187.2.1 != 0)) else (tilefarmlaw6_IeeeExact.j0 k t182 bt184.1 t186 bt187.1 bt187.2.1 bt187.2.2 true)) else (tilefarmlaw6_IeeeExact.j0 k t182 bt184.1 t186 bt187.1 bt187.2.1 bt187.2.2 false)) else (tilefarmlaw6_IeeeExact.j0 k t182 bt184.1 t186 bt187.1 bt187.2.1 bt187.2.2 false))))))) = some r := H
  have A4 := Aside0.mk A40
  clear A40
  replace H := Option.bind_eq_some_iff.mp H
  obtain ⟨⟨t184, t185⟩, A50, H⟩ := H
  replace H : ((tilefarmgen_Mod.f a1 25).bind fun t186 => ((ieee_Parts.f k t182).bind fun bt187 => ((ieee_Class.f k t182).bind fun t190 => (if (bt187.2.2 != (decide (t190 ≤ 2))) = true then (tilefarmlaw6_IeeeExact.j0 k t182 t184 t186 bt187.1 bt187.2.1 bt187.2.2 true) else (if bt187.2.2 = true then (if (Int.tmod bt187.1 2) = 0 then (if bt187.1 = 0 then (tilefarmlaw6_IeeeExact.j0 k t182 t184 t186 bt187.1 bt187.2.1 bt187.2.2 (bt187.2.1 != 0)) else (tilefarmlaw6_IeeeExact.j0 k t182 t184 t186 bt187.1 bt187.2.1 bt187.2.2 true)) else (tilefarmlaw6_IeeeExact.j0 k t182 t184 t186 bt187.1 bt187.2.1 bt187.2.2 false)) else (tilefarmlaw6_IeeeExact.j0 k t182 t184 t186 bt187.1 bt187.2.1 bt187.2.2 false)))))) = some r := H
  have A5 := Aside0.mk A50
  clear A50
  replace H := Option.bind_eq_some_iff.mp H
  obtain ⟨t186, A60, H⟩ := H
  replace H : ((ieee_Parts.f k t182).bind fun bt187 => ((ieee_Class.f k t182).bind fun t190 => (if (bt187.2.2 != (decide (t190 ≤ 2))) = true then (tilefarmlaw6_IeeeExact.j0 k t182 t184 t186 bt187.1 bt187.2.1 bt187.2.2 true) else (if bt187.2.2 = true then (if (Int.tmod bt187.1 2) = 0 then (if bt187.1 = 0 then (tilefarmlaw6_IeeeExact.j0 k t182 t184 t186 bt187.1 bt187.2.1 bt187.2.2 (bt187.2.1 != 0)) else (tilefarmlaw6_IeeeExact.j0 k t182 t184 t186 bt187.1 bt187.2.1 bt187.2.2 true)) else (tilefarmlaw6_IeeeExact.j0 k t182 t184 t186 bt187.1 bt187.2.1 bt187.2.2 false)) else (tilefarmlaw6_IeeeExact.j0 k t182 t184 t186 bt187.1 bt187.2.1 bt187.2.2 false))))) = some r := H
  have A6 := Aside0.mk A60
  clear A60
  replace H := Option.bind_eq_some_iff.mp H
  obtain ⟨⟨t187, t188, t189⟩, A70, H⟩ := H
  replace H : ((ieee_Class.f k t182).bind fun t190 => (if (t189 != (decide (t190 ≤ 2))) = true then (tilefarmlaw6_IeeeExact.j0 k t182 t184 t186 t187 t188 t189 true) else (if t189 = true then (if (Int.tmod t187 2) = 0 then (if t187 = 0 then (tilefarmlaw6_IeeeExact.j0 k t182 t184 t186 t187 t188 t189 (t188 != 0)) else (tilefarmlaw6_IeeeExact.j0 k t182 t184 t186 t187 t188 t189 true)) else (tilefarmlaw6_IeeeExact.j0 k t182 t184 t186 t187 t188 t189 false)) else (tilefarmlaw6_IeeeExact.j0 k t182 t184 t186 t187 t188 t189 false)))) = some r := H
  have A7 := Aside0.mk A70
  clear A70
  have HC8 := Aside0.mk H
  clear H
  go_enter Try.func6, Try.ntmps6
  go_upto_region 4 with (first | ((with_reducible refine gate_callee (f := 8) rfl ?_); refine goesL_ (some 19) rfl rfl Try.func8 (by kernel_rfl) rfl #[.slice A0 l0.length c0] rfl (by (try simp only [List.map_toArray, List.map_cons, List.map_nil]); first | done | rfl | (simp only [List.length_drop, List.length_take]; rfl)) ?_; (with_reducible refine (tilefarmgen_New.calls _ _ l0 t179 t180 w _ ?side1 ?side2 ?side3 A3.out).mono ?_); (case side1 => repeat (first | (with_reducible first | exact HB.out | apply below_alloc | apply pw_below_drewN | apply below_drew1) | exact HB.out)); (case side2 => exact HR0.out); (case side3 => exact HC0.out); rintro e w9 ⟨g181, rfl, hi, hb, hb2⟩; refine ⟨_, rfl, ?_⟩; have n0_ := Aside0.mk (hb); have n1_ := Aside0.mk (hi); clear HB; have HB := n0_; have HI181 := n1_; clear n0_ n1_; (try clear hb); (try clear hb2); (try clear hk); (try clear hi)) | ((with_reducible refine gate_callee (f := 9) rfl ?_); refine goesL_ (some 21) rfl rfl Try.func9 (by kernel_rfl) rfl #[.pointer (some ⟨g181, 0, none⟩)] rfl (by (try simp only [List.map_toArray, List.map_cons, List.map_nil]); first | done | rfl | (simp only [List.length_drop, List.length_take]; rfl)) ?_; (with_reducible refine (tilefarmgen_Tape_Bits.calls g181 t179 t180 t182 t183 w _ ?side1 ?side2 A4.out).mono ?_); (case side1 => repeat (first | (with_reducible first | exact HI181.out | apply IsS49.alloc | apply IsS49.drewN | apply IsS49.drew | apply IsS49.set_1) | exact HI181.out)); (case side2 => repeat (first | (with_reducible first | exact HB.out | apply below_alloc | apply pw_below_drewN | apply below_drew1 | refine below_set ?_ (IsS49.ge HI181.out)) | exact HB.out)); rintro e w10 ⟨rfl, hi, hb, hk⟩; refine ⟨_, rfl, ?_⟩; have n0_ := Aside0.mk (hb); have n1_ := Aside0.mk (hi); clear HB; clear HI181; have HB := n0_; have HI181 := n1_; clear n0_ n1_; (try clear hb); (try clear hb2); (try clear hk); (try clear hi)) | ((with_reducible refine gate_callee (f := 9) rfl ?_); refine goesL_ (some 23) rfl rfl Try.func9 (by kernel_rfl) rfl #[.pointer (some ⟨g181, 0, none⟩)] rfl (by (try simp only [List.map_toArray, List.map_cons, List.map_nil]); first | done | rfl | (simp only [List.length_drop, List.length_take]; rfl)) ?_; (with_reducible refine (tilefarmgen_Tape_Bits.calls g181 t179 t183 t184 t185 w _ ?side1 ?side2 A5.out).mono ?_); (case side1 => repeat (first | (with_reducible first | exact HI181.out | apply IsS49.alloc | apply IsS49.drewN | apply IsS49.drew | apply IsS49.set_1) | exact HI181.out)); (case side2 => repeat (first | (with_reducible first | exact HB.out | apply below_alloc | apply pw_below_drewN | apply below_drew1 | refine below_set ?_ (IsS49.ge HI181.out)) | exact HB.out)); rintro e w11 ⟨rfl, hi, hb, hk⟩; refine ⟨_, rfl, ?_⟩; have n0_ := Aside0.mk (hb); have n1_ := Aside0.mk (hi); clear HB; clear HI181; have HB := n0_; have HI181 := n1_; clear n0_ n1_; (try clear hb); (try clear hb2); (try clear hk); (try clear hi)) | ((with_reducible refine gate_callee (f := 11) rfl ?_); refine goesL_ (some 25) rfl rfl Try.func11 (by kernel_rfl) rfl #[.int .i64 a1, .int .i64 25] rfl (by (try simp only [List.map_toArray, List.map_cons, List.map_nil]); first | done | rfl | (simp only [List.length_drop, List.length_take]; rfl)) ?_; (with_reducible refine (tilefarmgen_Mod.calls a1 25 t186 _ A6.out).mono ?_); rintro e w' ⟨rfl, ⟨nd, rfl⟩⟩; refine ⟨_, rfl, ?_⟩) | ((with_reducible refine gate_callee (f := 19) rfl ?_); refine goesL_ (some 28) rfl rfl Try.func19 (by kernel_rfl) rfl #[.int .u64 t182] rfl (by (try simp only [List.map_toArray, List.map_cons, List.map_nil]); first | done | rfl | (simp only [List.length_drop, List.length_take]; rfl)) ?_; (with_reducible refine (ieee_Parts.calls k t182 t187 t188 t189 _ A7.out).mono ?_); rintro e w' ⟨rfl, ⟨nd, rfl⟩⟩; refine ⟨_, rfl, ?_⟩))
  (try simp only [Act.put, List.setIfInBounds_toArray, List.set_cons_zero, List.set_cons_succ])
  go_cut [52] (fun v52 wc => ∃ (kq : Nat) (x52_7 : Bool), v52 = .bool x52_7 ∧ Aside0 (tilefarmlaw6_IeeeExact.j0 kq t182 t184 t186 t187 t188 t189 x52_7 = some r) ∧ Aside0 (kq ≤ k) ∧ Aside0 (Below w.heap.size w wc))
  case first =>
    have H := HC8.out
    clear HC8
    replace H := Option.bind_eq_some_iff.mp H
    obtain ⟨t190, A120, H⟩ := H
    replace H : (if (t189 != (decide (t190 ≤ 2))) = true then (tilefarmlaw6_IeeeExact.j0 k t182 t184 t186 t187 t188 t189 true) else (if t189 = true then (if (Int.tmod t187 2) = 0 then (if t187 = 0 then (tilefarmlaw6_IeeeExact.j0 k t182 t184 t186 t187 t188 t189 (t188 != 0)) else (tilefarmlaw6_IeeeExact.j0 k t182 t184 t186 t187 t188 t189 true)) else (tilefarmlaw6_IeeeExact.j0 k t182 t184 t186 t187 t188 t189 false)) else (tilefarmlaw6_IeeeExact.j0 k t182 t184 t186 t187 t188 t189 false))) = some r := H
    have A12 := Aside0.mk A120
    clear A120
    by_cases c13 : (t189 != (decide (t190 ≤ 2))) = true
    · rw [if_pos c13] at H
      have c13b0 : (t189 != (decide (t190 ≤ 2))) = true := c13
      (try (have c13b1 : decide (t189 = (decide (t190 ≤ 2))) = false := by simpa using c13))
      (try (have c13b2 : (t189 == (decide (t190 ≤ 2))) = false := by simpa using c13))
      (try (have c13b3 : ¬ (t189 = (decide (t190 ≤ 2))) := by simpa using c13))
      clear c13
      (first | rw [c13b0] | (simp only [i64_w, i32_w]; rw [c13b0]) | skip)
      have H' := Aside0.mk H
      clear H
      go_wp2_with (first | ((with_reducible refine gate_callee (f := 21) rfl ?_); refine goesL_ (some 34) rfl rfl Try.func21 (by kernel_rfl) rfl #[.int .u64 t182] rfl (by (try simp only [List.map_toArray, List.map_cons, List.map_nil]); first | done | rfl | (simp only [List.length_drop, List.length_take]; rfl)) ?_; (with_reducible refine (ieee_Class.calls k t182 t190 _ A12.out).mono ?_); rintro e w' ⟨rfl, ⟨nd, rfl⟩⟩; refine ⟨_, rfl, ?_⟩))
      go_meet
      case rel => exact ⟨_, (true), (by first | rfl | (simp; done) | (simp [*]; done)), H', ⟨by first | omega | exact Nat.le_refl _⟩, ⟨by repeat (first | (with_reducible first | exact HB.out | apply below_alloc | apply pw_below_drewN | apply below_drew1 | refine below_set ?_ (IsS49.ge HI181.out)) | exact HB.out)⟩⟩
    · rw [if_neg c13] at H
      have c13b0 : (t189 != (decide (t190 ≤ 2))) = false := by simpa using c13
      (try (have c13b1 : decide (t189 = (decide (t190 ≤ 2))) = true := by simpa using c13))
      (try (have c13b2 : (t189 == (decide (t190 ≤ 2))) = true := by simpa using c13))
      clear c13
      (first | rw [c13b0] | (simp only [i64_w, i32_w]; rw [c13b0]) | skip)
      by_cases c14 : t189 = true
      · subst c14
        have H1 : (if (Int.tmod t187 2) = 0 then (if t187 = 0 then (tilefarmlaw6_IeeeExact.j0 k t182 t184 t186 t187 t188 true (t188 != 0)) else (tilefarmlaw6_IeeeExact.j0 k t182 t184 t186 t187 t188 true true)) else (tilefarmlaw6_IeeeExact.j0 k t182 t184 t186 t187 t188 true false)) = some r := by rw [if_pos rfl] at H; exact H
        clear H
        have H := H1
        clear H1
        by_cases c15 : (Int.tmod t187 2) = 0
        · rw [if_pos c15] at H
          have c15b0 : ((Int.tmod t187 2) == 0) = true := beq_iff_eq.mpr c15
          have c15b1 : ((Int.tmod t187 2) != 0) = false := bne_eq_false_iff_eq.mpr c15
          clear c15
          by_cases c16 : t187 = 0
          · rw [if_pos c16] at H
            have c16b0 : (t187 == 0) = true := beq_iff_eq.mpr c16
            have c16b1 : (t187 != 0) = false := bne_eq_false_iff_eq.mpr c16
            clear c16
            have H' := Aside0.mk H
            clear H
            go_wp2_with (first | ((with_reducible refine gate_callee (f := 21) rfl ?_); refine goesL_ (some 34) rfl rfl Try.func21 (by kernel_rfl) rfl #[.int .u64 t182] rfl (by (try simp only [List.map_toArray, List.map_cons, List.map_nil]); first | done | rfl | (simp only [List.length_drop, List.length_take]; rfl)) ?_; (with_reducible refine (ieee_Class.calls k t182 t190 _ A12.out).mono ?_); rintro e w' ⟨rfl, ⟨nd, rfl⟩⟩; refine ⟨_, rfl, ?_⟩))
            go_meet
            case rel => exact ⟨_, ((t188 != 0)), (by first | rfl | (simp; done) | (simp [*]; done)), H', ⟨by first | omega | exact Nat.le_refl _⟩, ⟨by repeat (first | (with_reducible first | exact HB.out | apply below_alloc | apply pw_below_drewN | apply below_drew1 | refine below_set ?_ (IsS49.ge HI181.out)) | exact HB.out)⟩⟩
          · rw [if_neg c16] at H
            have c16b0 : (t187 == 0) = false := beq_eq_false_iff_ne.mpr c16
            have c16b1 : (t187 != 0) = true := bne_iff_ne.mpr c16
            have H' := Aside0.mk H
            clear H
            go_wp2_with (first | ((with_reducible refine gate_callee (f := 21) rfl ?_); refine goesL_ (some 34) rfl rfl Try.func21 (by kernel_rfl) rfl #[.int .u64 t182] rfl (by (try simp only [List.map_toArray, List.map_cons, List.map_nil]); first | done | rfl | (simp only [List.length_drop, List.length_take]; rfl)) ?_; (with_reducible refine (ieee_Class.calls k t182 t190 _ A12.out).mono ?_); rintro e w' ⟨rfl, ⟨nd, rfl⟩⟩; refine ⟨_, rfl, ?_⟩))
            go_meet
            case rel => exact ⟨_, (true), (by first | rfl | (simp; done) | (simp [*]; done)), H', ⟨by first | omega | exact Nat.le_refl _⟩, ⟨by repeat (first | (with_reducible first | exact HB.out | apply below_alloc | apply pw_below_drewN | apply below_drew1 | refine below_set ?_ (IsS49.ge HI181.out)) | exact HB.out)⟩⟩
        · rw [if_neg c15] at H
          have c15b0 : ((Int.tmod t187 2) == 0) = false := beq_eq_false_iff_ne.mpr c15
          have c15b1 : ((Int.tmod t187 2) != 0) = true := bne_iff_ne.mpr c15
          have H' := Aside0.mk H
          clear H
          go_wp2_with (first | ((with_reducible refine gate_callee (f := 21) rfl ?_); refine goesL_ (some 34) rfl rfl Try.func21 (by kernel_rfl) rfl #[.int .u64 t182] rfl (by (try simp only [List.map_toArray, List.map_cons, List.map_nil]); first | done | rfl | (simp only [List.length_drop, List.length_take]; rfl)) ?_; (with_reducible refine (ieee_Class.calls k t182 t190 _ A12.out).mono ?_); rintro e w' ⟨rfl, ⟨nd, rfl⟩⟩; refine ⟨_, rfl, ?_⟩))
          go_meet
          case rel => exact ⟨_, (false), (by first | rfl | (simp; done) | (simp [*]; done)), H', ⟨by first | omega | exact Nat.le_refl _⟩, ⟨by repeat (first | (with_reducible first | exact HB.out | apply below_alloc | apply pw_below_drewN | apply below_drew1 | refine below_set ?_ (IsS49.ge HI181.out)) | exact HB.out)⟩⟩
      · replace c14 := Bool.eq_false_iff.mpr c14
        subst c14
        have H1 : (tilefarmlaw6_IeeeExact.j0 k t182 t184 t186 t187 t188 false false) = some r := by rw [if_neg (show ¬ (false = true) by decide)] at H; exact H
        clear H
        have H := H1
        clear H1
        have H' := Aside0.mk H
        clear H
        go_wp2_with (first | ((with_reducible refine gate_callee (f := 21) rfl ?_); refine goesL_ (some 34) rfl rfl Try.func21 (by kernel_rfl) rfl #[.int .u64 t182] rfl (by (try simp only [List.map_toArray, List.map_cons, List.map_nil]); first | done | rfl | (simp only [List.length_drop, List.length_take]; rfl)) ?_; (with_reducible refine (ieee_Class.calls k t182 t190 _ A12.out).mono ?_); rintro e w' ⟨rfl, ⟨nd, rfl⟩⟩; refine ⟨_, rfl, ?_⟩))
        go_meet
        case rel => exact ⟨_, (false), (by first | rfl | (simp; done) | (simp [*]; done)), H', ⟨by first | omega | exact Nat.le_refl _⟩, ⟨by repeat (first | (with_reducible first | exact HB.out | apply below_alloc | apply pw_below_drewN | apply below_drew1 | refine below_set ?_ (IsS49.ge HI181.out)) | exact HB.out)⟩⟩
  case rest =>
    clear HC8
    try clear c1
    try clear c2
    try clear p2
    try clear c6
    try clear c8
    try clear c9
    try clear c11
    try clear c13
    try clear c13b0
    try clear c13b1
    try clear c13b2
    try clear c14
    try clear c15
    try clear c15b0
    try clear c15b1
    try clear c16
    try clear c16b0
    try clear c16b1
    obtain ⟨kq, x52_7, rfl, HA, HJ7, HB⟩ := hcut
    cases kq with
    | zero => exact absurd HA.out (by simp [tilefarmlaw6_IeeeExact.j0])
    | succ kj7 =>
      have H := HA.out
      clear HA
      simp only [tilefarmlaw6_IeeeExact.j0] at H
      by_cases c17 : x52_7 = true
      · subst c17
        have H1 : (some false) = some r := by rw [if_pos rfl] at H; exact H
        clear H
        have H := H1
        clear H1
        exact absurd ((Option.some.inj H).trans HT.out) (by decide)
      · replace c17 := Bool.eq_false_iff.mpr c17
        subst c17
        have H1 : ((ieee_Scale.f kj7 t182 t186).bind fun bt191 => ((ieee_Scale.f kj7 t184 t186).bind fun bt193 => ((ieee_Compare.f kj7 t182 t184).bind fun bt195 => (if bt191.2 = 0 then (if bt193.2 = 0 then (if bt195.2 = true then (if bt195.1 ≤ 0 then (if bt191.1 > bt193.1 then (tilefarmlaw6_IeeeExact.j1 kj7 t186 t187 t188 t189 bt191.1 bt191.2 true) else (if bt195.1 ≥ 0 then (tilefarmlaw6_IeeeExact.j1 kj7 t186 t187 t188 t189 bt191.1 bt191.2 (decide (bt191.1 < bt193.1))) else (tilefarmlaw6_IeeeExact.j1 kj7 t186 t187 t188 t189 bt191.1 bt191.2 false))) else (if bt195.1 ≥ 0 then (tilefarmlaw6_IeeeExact.j1 kj7 t186 t187 t188 t189 bt191.1 bt191.2 (decide (bt191.1 < bt193.1))) else (tilefarmlaw6_IeeeExact.j1 kj7 t186 t187 t188 t189 bt191.1 bt191.2 false))) else (tilefarmlaw6_IeeeExact.j1 kj7 t186 t187 t188 t189 bt191.1 bt191.2 true)) else (tilefarmlaw6_IeeeExact.j1 kj7 t186 t187 t188 t189 bt191.1 bt191.2 false)) else (tilefarmlaw6_IeeeExact.j1 kj7 t186 t187 t188 t189 bt191.1 bt191.2 false))))) = some r := by rw [if_neg (show ¬ (false = true) by decide)] at H; exact H
        clear H
        have H := H1
        clear H1
        replace H := Option.bind_eq_some_iff.mp H
        obtain ⟨⟨t191, t192⟩, A180, H⟩ := H
        replace H : ((ieee_Scale.f kj7 t184 t186).bind fun bt193 => ((ieee_Compare.f kj7 t182 t184).bind fun bt195 => (if t192 = 0 then (if bt193.2 = 0 then (if bt195.2 = true then (if bt195.1 ≤ 0 then (if t191 > bt193.1 then (tilefarmlaw6_IeeeExact.j1 kj7 t186 t187 t188 t189 t191 t192 true) else (if bt195.1 ≥ 0 then (tilefarmlaw6_IeeeExact.j1 kj7 t186 t187 t188 t189 t191 t192 (decide (t191 < bt193.1))) else (tilefarmlaw6_IeeeExact.j1 kj7 t186 t187 t188 t189 t191 t192 false))) else (if bt195.1 ≥ 0 then (tilefarmlaw6_IeeeExact.j1 kj7 t186 t187 t188 t189 t191 t192 (decide (t191 < bt193.1))) else (tilefarmlaw6_IeeeExact.j1 kj7 t186 t187 t188 t189 t191 t192 false))) else (tilefarmlaw6_IeeeExact.j1 kj7 t186 t187 t188 t189 t191 t192 true)) else (tilefarmlaw6_IeeeExact.j1 kj7 t186 t187 t188 t189 t191 t192 false)) else (tilefarmlaw6_IeeeExact.j1 kj7 t186 t187 t188 t189 t191 t192 false)))) = some r := H
        have A18 := Aside0.mk A180
        clear A180
        replace H := Option.bind_eq_some_iff.mp H
        obtain ⟨⟨t193, t194⟩, A190, H⟩ := H
        replace H : ((ieee_Compare.f kj7 t182 t184).bind fun bt195 => (if t192 = 0 then (if t194 = 0 then (if bt195.2 = true then (if bt195.1 ≤ 0 then (if t191 > t193 then (tilefarmlaw6_IeeeExact.j1 kj7 t186 t187 t188 t189 t191 t192 true) else (if bt195.1 ≥ 0 then (tilefarmlaw6_IeeeExact.j1 kj7 t186 t187 t188 t189 t191 t192 (decide (t191 < t193))) else (tilefarmlaw6_IeeeExact.j1 kj7 t186 t187 t188 t189 t191 t192 false))) else (if bt195.1 ≥ 0 then (tilefarmlaw6_IeeeExact.j1 kj7 t186 t187 t188 t189 t191 t192 (decide (t191 < t193))) else (tilefarmlaw6_IeeeExact.j1 kj7 t186 t187 t188 t189 t191 t192 false))) else (tilefarmlaw6_IeeeExact.j1 kj7 t186 t187 t188 t189 t191 t192 true)) else (tilefarmlaw6_IeeeExact.j1 kj7 t186 t187 t188 t189 t191 t192 false)) else (tilefarmlaw6_IeeeExact.j1 kj7 t186 t187 t188 t189 t191 t192 false))) = some r := H
        have A19 := Aside0.mk A190
        clear A190
        replace H := Option.bind_eq_some_iff.mp H
        obtain ⟨⟨t195, t196⟩, A200, H⟩ := H
        replace H : (if t192 = 0 then (if t194 = 0 then (if t196 = true then (if t195 ≤ 0 then (if t191 > t193 then (tilefarmlaw6_IeeeExact.j1 kj7 t186 t187 t188 t189 t191 t192 true) else (if t195 ≥ 0 then (tilefarmlaw6_IeeeExact.j1 kj7 t186 t187 t188 t189 t191 t192 (decide (t191 < t193))) else (tilefarmlaw6_IeeeExact.j1 kj7 t186 t187 t188 t189 t191 t192 false))) else (if t195 ≥ 0 then (tilefarmlaw6_IeeeExact.j1 kj7 t186 t187 t188 t189 t191 t192 (decide (t191 < t193))) else (tilefarmlaw6_IeeeExact.j1 kj7 t186 t187 t188 t189 t191 t192 false))) else (tilefarmlaw6_IeeeExact.j1 kj7 t186 t187 t188 t189 t191 t192 true)) else (tilefarmlaw6_IeeeExact.j1 kj7 t186 t187 t188 t189 t191 t192 false)) else (tilefarmlaw6_IeeeExact.j1 kj7 t186 t187 t188 t189 t191 t192 false)) = some r := H
        have A20 := Aside0.mk A200
        clear A200
        have HC21 := Aside0.mk H
        clear H
        go_upto_region 9 with (first | ((with_reducible refine gate_callee (f := 12) rfl ?_); refine goesL_ (some 56) rfl rfl Try.func12 (by kernel_rfl) rfl #[.int .u64 t182, .int .i64 t186] rfl (by (try simp only [List.map_toArray, List.map_cons, List.map_nil]); first | done | rfl | (simp only [List.length_drop, List.length_take]; rfl)) ?_; (with_reducible refine (ieee_Scale.calls kj7 t182 t186 t191 t192 _ A18.out).mono ?_); rintro e w22 ⟨rfl, hb⟩; refine ⟨_, rfl, ?_⟩; have n0_ := Aside0.mk (below_step (by repeat (first | (with_reducible first | exact HB.out | apply below_alloc | apply pw_below_drewN | apply below_drew1) | exact HB.out)) hb); clear HB; have HB := n0_; clear n0_; (try clear hb); (try clear hb2); (try clear hk); (try clear hi)) | ((with_reducible refine gate_callee (f := 12) rfl ?_); refine goesL_ (some 62) rfl rfl Try.func12 (by kernel_rfl) rfl #[.int .u64 t184, .int .i64 t186] rfl (by (try simp only [List.map_toArray, List.map_cons, List.map_nil]); first | done | rfl | (simp only [List.length_drop, List.length_take]; rfl)) ?_; (with_reducible refine (ieee_Scale.calls kj7 t184 t186 t193 t194 _ A19.out).mono ?_); rintro e w23 ⟨rfl, hb⟩; refine ⟨_, rfl, ?_⟩; have n0_ := Aside0.mk (below_step (by repeat (first | (with_reducible first | exact HB.out | apply below_alloc | apply pw_below_drewN | apply below_drew1) | exact HB.out)) hb); clear HB; have HB := n0_; clear n0_; (try clear hb); (try clear hb2); (try clear hk); (try clear hi)) | ((with_reducible refine gate_callee (f := 23) rfl ?_); refine goesL_ (some 68) rfl rfl Try.func23 (by kernel_rfl) rfl #[.int .u64 t182, .int .u64 t184] rfl (by (try simp only [List.map_toArray, List.map_cons, List.map_nil]); first | done | rfl | (simp only [List.length_drop, List.length_take]; rfl)) ?_; (with_reducible refine (ieee_Compare.calls kj7 t182 t184 t195 t196 _ A20.out).mono ?_); rintro e w' ⟨rfl, ⟨nd, rfl⟩⟩; refine ⟨_, rfl, ?_⟩))
        (try simp only [Act.put, List.setIfInBounds_toArray, List.set_cons_zero, List.set_cons_succ])
        go_cut [98] (fun v98 wc => ∃ (kq : Nat) (x98_20 : Bool), v98 = .bool x98_20 ∧ Aside0 (tilefarmlaw6_IeeeExact.j1 kq t186 t187 t188 t189 t191 t192 x98_20 = some r) ∧ Aside0 (kq ≤ kj7) ∧ Aside0 (Below w.heap.size w wc))
        case first =>
          have H := HC21.out
          clear HC21
          by_cases c24 : t192 = 0
          · rw [if_pos c24] at H
            have c24b0 : (t192 == 0) = true := beq_iff_eq.mpr c24
            have c24b1 : (t192 != 0) = false := bne_eq_false_iff_eq.mpr c24
            clear c24
            (first | rw [c24b0] | (simp only [i64_w, i32_w]; rw [c24b0]) | skip)
            by_cases c25 : t194 = 0
            · rw [if_pos c25] at H
              have c25b0 : (t194 == 0) = true := beq_iff_eq.mpr c25
              have c25b1 : (t194 != 0) = false := bne_eq_false_iff_eq.mpr c25
              clear c25
              by_cases c26 : t196 = true
              · subst c26
                have H1 : (if t195 ≤ 0 then (if t191 > t193 then (tilefarmlaw6_IeeeExact.j1 kj7 t186 t187 t188 t189 t191 t192 true) else (if t195 ≥ 0 then (tilefarmlaw6_IeeeExact.j1 kj7 t186 t187 t188 t189 t191 t192 (decide (t191 < t193))) else (tilefarmlaw6_IeeeExact.j1 kj7 t186 t187 t188 t189 t191 t192 false))) else (if t195 ≥ 0 then (tilefarmlaw6_IeeeExact.j1 kj7 t186 t187 t188 t189 t191 t192 (decide (t191 < t193))) else (tilefarmlaw6_IeeeExact.j1 kj7 t186 t187 t188 t189 t191 t192 false))) = some r := by rw [if_pos rfl] at H; exact H
                clear H
                have H := H1
                clear H1
                by_cases c27 : t195 ≤ 0
                · rw [if_pos c27] at H
                  have c27b0 : decide (t195 ≤ 0) = true := decide_eq_true c27
                  clear c27
                  by_cases c28 : t191 > t193
                  · rw [if_pos c28] at H
                    have c28b0 : decide (t193 < t191) = true := decide_eq_true c28
                    clear c28
                    have H' := Aside0.mk H
                    clear H
                    go_wp2
                    go_meet
                    case rel => exact ⟨_, (true), (by first | rfl | (simp; done) | (simp [*]; done)), H', ⟨by have := HJ7.out; first | omega | exact Nat.le_refl _⟩, ⟨by repeat (first | (with_reducible first | exact HB.out | apply below_alloc | apply pw_below_drewN | apply below_drew1) | exact HB.out)⟩⟩
                  · rw [if_neg c28] at H
                    have c28b0 : decide (t193 < t191) = false := decide_eq_false c28
                    clear c28
                    by_cases c29 : t195 ≥ 0
                    · rw [if_pos c29] at H
                      have c29b0 : decide (0 ≤ t195) = true := decide_eq_true c29
                      clear c29
                      have H' := Aside0.mk H
                      clear H
                      go_wp2
                      go_meet
                      case rel => exact ⟨_, (decide (t191 < t193)), (by first | rfl | (simp; done) | (simp [*]; done)), H', ⟨by have := HJ7.out; first | omega | exact Nat.le_refl _⟩, ⟨by repeat (first | (with_reducible first | exact HB.out | apply below_alloc | apply pw_below_drewN | apply below_drew1) | exact HB.out)⟩⟩
                    · rw [if_neg c29] at H
                      have c29b0 : decide (0 ≤ t195) = false := decide_eq_false c29
                      clear c29
                      have H' := Aside0.mk H
                      clear H
                      go_wp2
                      go_meet
                      case rel => exact ⟨_, (false), (by first | rfl | (simp; done) | (simp [*]; done)), H', ⟨by have := HJ7.out; first | omega | exact Nat.le_refl _⟩, ⟨by repeat (first | (with_reducible first | exact HB.out | apply below_alloc | apply pw_below_drewN | apply below_drew1) | exact HB.out)⟩⟩
                · rw [if_neg c27] at H
                  have c27b0 : decide (t195 ≤ 0) = false := decide_eq_false c27
                  clear c27
                  by_cases c30 : t195 ≥ 0
                  · rw [if_pos c30] at H
                    have c30b0 : decide (0 ≤ t195) = true := decide_eq_true c30
                    clear c30
                    have H' := Aside0.mk H
                    clear H
                    go_wp2
                    go_meet
                    case rel => exact ⟨_, (decide (t191 < t193)), (by first | rfl | (simp; done) | (simp [*]; done)), H', ⟨by have := HJ7.out; first | omega | exact Nat.le_refl _⟩, ⟨by repeat (first | (with_reducible first | exact HB.out | apply below_alloc | apply pw_below_drewN | apply below_drew1) | exact HB.out)⟩⟩
                  · rw [if_neg c30] at H
                    have c30b0 : decide (0 ≤ t195) = false := decide_eq_false c30
                    clear c30
                    have H' := Aside0.mk H
                    clear H
                    go_wp2
                    go_meet
                    case rel => exact ⟨_, (false), (by first | rfl | (simp; done) | (simp [*]; done)), H', ⟨by have := HJ7.out; first | omega | exact Nat.le_refl _⟩, ⟨by repeat (first | (with_reducible first | exact HB.out | apply below_alloc | apply pw_below_drewN | apply below_drew1) | exact HB.out)⟩⟩
              · replace c26 := Bool.eq_false_iff.mpr c26
                subst c26
                have H1 : (tilefarmlaw6_IeeeExact.j1 kj7 t186 t187 t188 t189 t191 t192 true) = some r := by rw [if_neg (show ¬ (false = true) by decide)] at H; exact H
                clear H
                have H := H1
                clear H1
                have H' := Aside0.mk H
                clear H
                go_wp2
                go_meet
                case rel => exact ⟨_, (true), (by first | rfl | (simp; done) | (simp [*]; done)), H', ⟨by have := HJ7.out; first | omega | exact Nat.le_refl _⟩, ⟨by repeat (first | (with_reducible first | exact HB.out | apply below_alloc | apply pw_below_drewN | apply below_drew1) | exact HB.out)⟩⟩
            · rw [if_neg c25] at H
              have c25b0 : (t194 == 0) = false := beq_eq_false_iff_ne.mpr c25
              have c25b1 : (t194 != 0) = true := bne_iff_ne.mpr c25
              have H' := Aside0.mk H
              clear H
              go_wp2
              go_meet
              case rel => exact ⟨_, (false), (by first | rfl | (simp; done) | (simp [*]; done)), H', ⟨by have := HJ7.out; first | omega | exact Nat.le_refl _⟩, ⟨by repeat (first | (with_reducible first | exact HB.out | apply below_alloc | apply pw_below_drewN | apply below_drew1) | exact HB.out)⟩⟩
          · rw [if_neg c24] at H
            have c24b0 : (t192 == 0) = false := beq_eq_false_iff_ne.mpr c24
            have c24b1 : (t192 != 0) = true := bne_iff_ne.mpr c24
            (first | rw [c24b0] | (simp only [i64_w, i32_w]; rw [c24b0]) | skip)
            have H' := Aside0.mk H
            clear H
            go_wp2
            go_meet
            case rel => exact ⟨_, (false), (by first | rfl | (simp; done) | (simp [*]; done)), H', ⟨by have := HJ7.out; first | omega | exact Nat.le_refl _⟩, ⟨by repeat (first | (with_reducible first | exact HB.out | apply below_alloc | apply pw_below_drewN | apply below_drew1) | exact HB.out)⟩⟩
        case rest =>
          clear HC21
          try clear c1
          try clear c2
          try clear p2
          try clear c3
          try clear c6
          try clear c8
          try clear c9
          try clear c11
          try clear c12
          try clear c13
          try clear c13b0
          try clear c13b1
          try clear c13b2
          try clear c14
          try clear c15
          try clear c15b0
          try clear c15b1
          try clear c16
          try clear c16b0
          try clear c16b1
          try clear c17
          try clear c19
          try clear c21
          try clear c23
          try clear c24
          try clear c24b0
          try clear c24b1
          try clear c25
          try clear c25b0
          try clear c25b1
          try clear c26
          try clear c27
          try clear c27b0
          try clear c28
          try clear c28b0
          try clear c29
          try clear c29b0
          try clear c30
          try clear c30b0
          try clear p2
          obtain ⟨kq, x98_20, rfl, HA, HJ20, HB⟩ := hcut
          cases kq with
          | zero => exact absurd HA.out (by simp [tilefarmlaw6_IeeeExact.j1])
          | succ kj20 =>
            have H := HA.out
            clear HA
            simp only [tilefarmlaw6_IeeeExact.j1] at H
            by_cases c31 : x98_20 = true
            · subst c31
              have H1 : (some false) = some r := by rw [if_pos rfl] at H; exact H
              clear H
              have H := H1
              clear H1
              exact absurd ((Option.some.inj H).trans HT.out) (by decide)
            · replace c31 := Bool.eq_false_iff.mpr c31
              subst c31
              have H1 : (if t189 = true then (if t192 = 0 then (if t188 ≥ 0 then (if (wrap64 (t188 + t186)) < 16 then (if 0 ≤ (IntKind.u64.wrap (wrap64 (t188 + t186))) then (if t191 = (shl .i64 t187 (IntKind.u64.wrap (wrap64 (t188 + t186)))) then ((tilefarmlaw6_sane.f kj20).bind fun t197 => (some t197)) else (some false)) else (none)) else ((tilefarmlaw6_sane.f kj20).bind fun t198 => (some t198))) else ((tilefarmlaw6_sane.f kj20).bind fun t199 => (some t199))) else ((tilefarmlaw6_sane.f kj20).bind fun t200 => (some t200))) else (if t192 = 1 then ((tilefarmlaw6_sane.f kj20).bind fun t201 => (some t201)) else (some false))) = some r := by rw [if_neg (show ¬ (false = true) by decide)] at H; exact H
              clear H
              have H := H1
              clear H1
              by_cases c32 : t189 = true
              · subst c32
                have H1 : (if t192 = 0 then (if t188 ≥ 0 then (if (wrap64 (t188 + t186)) < 16 then (if 0 ≤ (IntKind.u64.wrap (wrap64 (t188 + t186))) then (if t191 = (shl .i64 t187 (IntKind.u64.wrap (wrap64 (t188 + t186)))) then ((tilefarmlaw6_sane.f kj20).bind fun t197 => (some t197)) else (some false)) else (none)) else ((tilefarmlaw6_sane.f kj20).bind fun t198 => (some t198))) else ((tilefarmlaw6_sane.f kj20).bind fun t199 => (some t199))) else ((tilefarmlaw6_sane.f kj20).bind fun t200 => (some t200))) = some r := by rw [if_pos rfl] at H; exact H
                clear H
                have H := H1
                clear H1
                by_cases c33 : t192 = 0
                · rw [if_pos c33] at H
                  have c33b0 : (t192 == 0) = true := beq_iff_eq.mpr c33
                  have c33b1 : (t192 != 0) = false := bne_eq_false_iff_eq.mpr c33
                  clear c33
                  by_cases c34 : t188 ≥ 0
                  · rw [if_pos c34] at H
                    have c34b0 : decide (0 ≤ t188) = true := decide_eq_true c34
                    clear c34
                    by_cases c35 : (wrap64 (t188 + t186)) < 16
                    · rw [if_pos c35] at H
                      have c35b0 : decide ((wrap64 (t188 + t186)) < 16) = true := decide_eq_true c35
                      clear c35
                      obtain ⟨ji36, hji36⟩ : ∃ j_ : Int, (IntKind.u64.wrap (wrap64 (t188 + t186))) = j_ := ⟨_, rfl⟩
                      replace H : (if 0 ≤ (ji36) then (if t191 = (shl .i64 t187 (ji36)) then ((tilefarmlaw6_sane.f kj20).bind fun t197 => (some t197)) else (some false)) else (none)) = some r := by first | (rw [hji36] at H; exact H) | (simp only [hji36] at H ⊢; exact H)
                      by_cases c37 : 0 ≤ (ji36)
                      · rw [if_pos c37] at H
                        have c37b0 := eq_true c37
                        have c37b1 : decide (0 ≤ (ji36)) = true := decide_eq_true c37
                        clear c37
                        obtain ⟨ji38, hji38⟩ : ∃ j_ : Int, (shl .i64 t187 (ji36)) = j_ := ⟨_, rfl⟩
                        replace H : (if t191 = (ji38) then ((tilefarmlaw6_sane.f kj20).bind fun t197 => (some t197)) else (some false)) = some r := by first | (rw [hji38] at H; exact H) | (simp only [hji38] at H ⊢; exact H)
                        have hji38_ : (IntKind.i64.wrap (t187 * 2 ^ min (ji36).toNat 64)) = ji38 := hji38
                        have hji38z : (ji36) ≤ 64 → (IntKind.i64.wrap (t187 * 2 ^ (ji36).toNat)) = ji38 := shl_small hji38
                        have hji38y : (wrap64 (t187 * 2 ^ min (ji36).toNat 64)) = ji38 := (i64_w _).symm.trans hji38_
                        have hji38x : (ji36) ≤ 64 → (wrap64 (t187 * 2 ^ (ji36).toNat)) = ji38 := fun h_ => (i64_w _).symm.trans (hji38z h_)
                        by_cases c39 : t191 = (ji38)
                        · rw [if_pos c39] at H
                          have c39b0 : (t191 == (ji38)) = true := beq_iff_eq.mpr c39
                          have c39b1 : (t191 != (ji38)) = false := bne_eq_false_iff_eq.mpr c39
                          clear c39
                          replace H := Option.bind_eq_some_iff.mp H
                          obtain ⟨t197, A400, H⟩ := H
                          replace H : (some t197) = some r := H
                          have A40 := Aside0.mk A400
                          clear A400
                          obtain rfl := Option.some.inj H
                          go_wp2_with (first | (go_at_call 14; (with_reducible refine (tilefarmlaw6_sane.calls kj20  t197 _ A40.out).mono ?_); rintro e w41 ⟨rfl, hb⟩; have n0_ := Aside0.mk (below_step (by repeat (first | (with_reducible first | exact HB.out | apply below_alloc | apply pw_below_drewN | apply below_drew1) | exact HB.out)) hb); clear HB; have HB := n0_; clear n0_; (try clear hb); (try clear hb2); (try clear hk); (try clear hi)))
                          go_ret
                          exact ⟨by first | rfl | (simp [errW_none, errW_some] <;> rfl) | (simp only [← hji36, ← hji38]; first | rfl | (simp [errW_none, errW_some] <;> rfl)) | (simp [*, errW_none, errW_some] <;> rfl), by repeat (first | (with_reducible first | exact HB.out | apply below_alloc | apply pw_below_drewN | apply below_drew1) | exact HB.out)⟩
                        · rw [if_neg c39] at H
                          have c39b0 : (t191 == (ji38)) = false := beq_eq_false_iff_ne.mpr c39
                          have c39b1 : (t191 != (ji38)) = true := bne_iff_ne.mpr c39
                          exact absurd ((Option.some.inj H).trans HT.out) (by decide)
                      · rw [if_neg c37] at H
                        exact absurd H (by simp)
                    · rw [if_neg c35] at H
                      have c35b0 : decide ((wrap64 (t188 + t186)) < 16) = false := decide_eq_false c35
                      clear c35
                      replace H := Option.bind_eq_some_iff.mp H
                      obtain ⟨t198, A420, H⟩ := H
                      replace H : (some t198) = some r := H
                      have A42 := Aside0.mk A420
                      clear A420
                      obtain rfl := Option.some.inj H
                      go_wp2_with (first | (go_at_call 14; (with_reducible refine (tilefarmlaw6_sane.calls kj20  t198 _ A42.out).mono ?_); rintro e w43 ⟨rfl, hb⟩; have n0_ := Aside0.mk (below_step (by repeat (first | (with_reducible first | exact HB.out | apply below_alloc | apply pw_below_drewN | apply below_drew1) | exact HB.out)) hb); clear HB; have HB := n0_; clear n0_; (try clear hb); (try clear hb2); (try clear hk); (try clear hi)))
                      go_ret
                      exact ⟨by first | rfl | (simp [errW_none, errW_some] <;> rfl) | (simp [*, errW_none, errW_some] <;> rfl), by repeat (first | (with_reducible first | exact HB.out | apply below_alloc | apply pw_below_drewN | apply below_drew1) | exact HB.out)⟩
                  · rw [if_neg c34] at H
                    have c34b0 : decide (0 ≤ t188) = false := decide_eq_false c34
                    clear c34
                    replace H := Option.bind_eq_some_iff.mp H
                    obtain ⟨t199, A440, H⟩ := H
                    replace H : (some t199) = some r := H
                    have A44 := Aside0.mk A440
                    clear A440
                    obtain rfl := Option.some.inj H
                    go_wp2_with (first | (go_at_call 14; (with_reducible refine (tilefarmlaw6_sane.calls kj20  t199 _ A44.out).mono ?_); rintro e w45 ⟨rfl, hb⟩; have n0_ := Aside0.mk (below_step (by repeat (first | (with_reducible first | exact HB.out | apply below_alloc | apply pw_below_drewN | apply below_drew1) | exact HB.out)) hb); clear HB; have HB := n0_; clear n0_; (try clear hb); (try clear hb2); (try clear hk); (try clear hi)))
                    go_ret
                    exact ⟨by first | rfl | (simp [errW_none, errW_some] <;> rfl) | (simp [*, errW_none, errW_some] <;> rfl), by repeat (first | (with_reducible first | exact HB.out | apply below_alloc | apply pw_below_drewN | apply below_drew1) | exact HB.out)⟩
                · rw [if_neg c33] at H
                  have c33b0 : (t192 == 0) = false := beq_eq_false_iff_ne.mpr c33
                  have c33b1 : (t192 != 0) = true := bne_iff_ne.mpr c33
                  replace H := Option.bind_eq_some_iff.mp H
                  obtain ⟨t200, A460, H⟩ := H
                  replace H : (some t200) = some r := H
                  have A46 := Aside0.mk A460
                  clear A460
                  obtain rfl := Option.some.inj H
                  go_wp2_with (first | (go_at_call 14; (with_reducible refine (tilefarmlaw6_sane.calls kj20  t200 _ A46.out).mono ?_); rintro e w47 ⟨rfl, hb⟩; have n0_ := Aside0.mk (below_step (by repeat (first | (with_reducible first | exact HB.out | apply below_alloc | apply pw_below_drewN | apply below_drew1) | exact HB.out)) hb); clear HB; have HB := n0_; clear n0_; (try clear hb); (try clear hb2); (try clear hk); (try clear hi)))
                  go_ret
                  exact ⟨by first | rfl | (simp [errW_none, errW_some] <;> rfl) | (simp [*, errW_none, errW_some] <;> rfl), by repeat (first | (with_reducible first | exact HB.out | apply below_alloc | apply pw_below_drewN | apply below_drew1) | exact HB.out)⟩
              · replace c32 := Bool.eq_false_iff.mpr c32
                subst c32
                have H1 : (if t192 = 1 then ((tilefarmlaw6_sane.f kj20).bind fun t201 => (some t201)) else (some false)) = some r := by rw [if_neg (show ¬ (false = true) by decide)] at H; exact H
                clear H
                have H := H1
                clear H1
                by_cases c48 : t192 = 1
                · rw [if_pos c48] at H
                  have c48b0 : (t192 == 1) = true := beq_iff_eq.mpr c48
                  have c48b1 : (t192 != 1) = false := bne_eq_false_iff_eq.mpr c48
                  clear c48
                  replace H := Option.bind_eq_some_iff.mp H
                  obtain ⟨t201, A490, H⟩ := H
                  replace H : (some t201) = some r := H
                  have A49 := Aside0.mk A490
                  clear A490
                  obtain rfl := Option.some.inj H
                  go_wp2_with (first | (go_at_call 14; (with_reducible refine (tilefarmlaw6_sane.calls kj20  t201 _ A49.out).mono ?_); rintro e w50 ⟨rfl, hb⟩; have n0_ := Aside0.mk (below_step (by repeat (first | (with_reducible first | exact HB.out | apply below_alloc | apply pw_below_drewN | apply below_drew1) | exact HB.out)) hb); clear HB; have HB := n0_; clear n0_; (try clear hb); (try clear hb2); (try clear hk); (try clear hi)))
                  go_ret
                  exact ⟨by first | rfl | (simp [errW_none, errW_some] <;> rfl) | (simp [*, errW_none, errW_some] <;> rfl), by repeat (first | (with_reducible first | exact HB.out | apply below_alloc | apply pw_below_drewN | apply below_drew1) | exact HB.out)⟩
                · rw [if_neg c48] at H
                  have c48b0 : (t192 == 1) = false := beq_eq_false_iff_ne.mpr c48
                  have c48b1 : (t192 != 1) = true := bne_iff_ne.mpr c48
                  exact absurd ((Option.some.inj H).trans HT.out) (by decide)

/-- THE ONE PURE STATEMENT of tilefarmlaw6_IeeeExact: yours. -/
def tilefarmlaw6_IeeeExact.Pure : Prop := ∀ (l0 : List Int) (a1 : Int), l0.length ≤ maxLen → l0.length * 8 ≤ 140737488351232 → (∀ x ∈ l0, (Lit.int .i64 x).wf = true) → (Lit.int .i64 a1).wf = true → ∃ k, tilefarmlaw6_IeeeExact.f k l0 a1 = some true
theorem tilefarmlaw6_IeeeExact.walk (P : tilefarmlaw6_IeeeExact.Pure) (a0 : Option Addr) (len0 cap0 : Nat) (z0 : List Int) (a1 : Int) (w : World) (w0 : (a0 = none ∧ len0 = 0 ∧ cap0 = 0 ∧ z0 = []) ∨ ∃ x, a0 = some x ∧ len0 ≤ cap0 ∧ cap0 ≤ maxLen ∧ z0.length = cap0 ∧ (∀ i, i < z0.length → w.cell? (x.add i) = some (.int .i64 (z0.getD i 0))) ∧ ∀ n ∈ z0, (Lit.int .i64 n).wf = true) (y0 : len0 * 8 ≤ 140737488351232) (w1 : (Lit.int .i64 a1).wf = true) :
    Calls Try.prog 6 #[.slice a0 len0 cap0, .int .i64 a1] w fun e w' => e = .returned (.bool true) ∧ Below w.heap.size w w' := by
  obtain ⟨l0, rfl, hr0, hm0, hw0, hc0⟩ := ReadsInt.ofRowC w0
  obtain ⟨k, h⟩ := P l0 a1 hm0 y0 hw0 w1
  refine (tilefarmlaw6_IeeeExact.calls k _ _ l0 a1 true w (Kd.C_of_reads (d := (0 : Int)) (h1 := fun _ => rfl) hr0) hc0 h).mono ?_
  rintro e w' ⟨rfl, hd⟩
  exact ⟨rfl, hd⟩

end Go.Proofs.Ytoamkepelnphaaa.PIeeeExact
