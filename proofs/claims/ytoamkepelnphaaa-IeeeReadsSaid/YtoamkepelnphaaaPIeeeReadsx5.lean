-- Written by a program of the session (wip/tools/myprint.py) over the kit's printer; checked by Lean.
import Derived.Test.YtoamkepelnphaaaPIeeeReadsx0
import Derived.Test.YtoamkepelnphaaaPIeeeReadsx1
import Derived.Test.YtoamkepelnphaaaPIeeeReadsx3
import Derived.Test.YtoamkepelnphaaaPIeeeReadsx4
namespace Go.Proofs.Ytoamkepelnphaaa.PIeeeReads
open Go.RowKit Go.Proofs.YtoamkepelnphaaaW.PrintWords Go.Proofs.YtoamkepelnphaaaW.PrintLast Go.Proofs.YtoamkepelnphaaaW.PrintMore
attribute [local go_sem] max2_int min2_int max_two min_two max_three min_three max_four min_four   -- for this text's walks alone
set_option linter.unusedVariables false
set_option linter.unusedSimpArgs false

/-! ### tilefarmlaw6_IeeeReads: function 5 -/
mutual
def tilefarmlaw6_IeeeReads.l0 : Nat → List Int → Int → Option (Bool)
  | 0, _, _ => none
  | k + 1, x8, x9 => if x9 < (x8.length : Int) then (if 0 ≤ x9 then ((ieee_Parts.f k (rd x8 x9)).bind fun bt204 => ((tilefarmref6_Parts.f k (rd x8 x9)).bind fun bt208 => (if bt204.1 = bt208.1 then (if bt204.2.1 = bt208.2.1 then (if (bt204.2.2 != bt208.2.2) = true then (tilefarmlaw6_IeeeReads.j1 k x8 x9 true) else ((ieee_Class.f k (rd x8 x9)).bind fun t212 => ((tilefarmref6_Class.f k (rd x8 x9)).bind fun t214 => (tilefarmlaw6_IeeeReads.j1 k x8 x9 (t212 != t214))))) else (tilefarmlaw6_IeeeReads.j1 k x8 x9 true)) else (tilefarmlaw6_IeeeReads.j1 k x8 x9 true)))) else (none)) else ((tilefarmlaw6_sane.f k).bind fun t202 => (some t202))
def tilefarmlaw6_IeeeReads.j1 : Nat → List Int → Int → Bool → Option (Bool)
  | 0, _, _, _ => none
  | k + 1, x8, x9, x85 => if x85 = true then (some false) else (tilefarmlaw6_IeeeReads.l1 k x8 x9 0)
def tilefarmlaw6_IeeeReads.l1 : Nat → List Int → Int → Int → Option (Bool)
  | 0, _, _, _ => none
  | k + 1, x8, x9, x16 => if x16 < (x8.length : Int) then (if 0 ≤ x9 then (if x9 < (x8.length : Int) then (if 0 ≤ x16 then ((ieee_Compare.f k (rd x8 x9) (rd x8 x16)).bind fun bt217 => ((tilefarmref6_Compare.f k (rd x8 x9) (rd x8 x16)).bind fun bt221 => (if bt217.1 = bt221.1 then (if (bt217.2 != bt221.2) = true then (some false) else (tilefarmlaw6_IeeeReads.l1 k x8 x9 (wrap64 (x16 + 1)))) else (some false)))) else (none)) else (none)) else (none)) else (tilefarmlaw6_IeeeReads.l0 k x8 (wrap64 (x9 + 1)))
end
def tilefarmlaw6_IeeeReads.f (k : Nat) (l0 : List Int) (a1 : Int) (a2 : Int) : Option (Bool) := (tilefarmgen_New.f l0).bind fun bt190 => ((tilefarmgen_Tape_Bits.f bt190.1 bt190.2).bind fun bt193 => ((tilefarmgen_Tape_Bits.f bt190.1 bt193.2).bind fun bt195 => ((tilefarmgen_Tape_Bits.f bt190.1 bt195.2).bind fun bt197 => (tilefarmlaw6_IeeeReads.l0 k (([a1, a2, bt193.1, bt195.1, bt197.1, Go.bits .xor .u64 a1 9223372036854775808, Go.bits .xor .u64 a2 9223372036854775808] : List Int)) 0))))
theorem tilefarmlaw6_IeeeReads.mono_l : ∀ k, (∀ y0 y1, LeO (tilefarmlaw6_IeeeReads.l0 k y0 y1) (tilefarmlaw6_IeeeReads.l0 (k + 1) y0 y1)) ∧ (∀ y0 y1 y2, LeO (tilefarmlaw6_IeeeReads.j1 k y0 y1 y2) (tilefarmlaw6_IeeeReads.j1 (k + 1) y0 y1 y2)) ∧ (∀ y0 y1 y2, LeO (tilefarmlaw6_IeeeReads.l1 k y0 y1 y2) (tilefarmlaw6_IeeeReads.l1 (k + 1) y0 y1 y2))
  | 0 => ⟨fun _ _ r h => by simp [tilefarmlaw6_IeeeReads.l0] at h, fun _ _ _ r h => by simp [tilefarmlaw6_IeeeReads.j1] at h, fun _ _ _ r h => by simp [tilefarmlaw6_IeeeReads.l1] at h⟩
  | k + 1 => by
    obtain ⟨ih0, ih1, ih2⟩ := tilefarmlaw6_IeeeReads.mono_l k
    refine ⟨?_, ?_, ?_⟩
    · intro y0 y1
      unfold tilefarmlaw6_IeeeReads.l0
      repeat' first
      | (with_reducible exact ih0 _ _)
      | (with_reducible exact ih1 _ _ _)
      | (with_reducible exact ih2 _ _ _)
      | (with_reducible exact ieee_Class.mono _ _)
      | (with_reducible exact ieee_Compare.mono _ _ _)
      | (with_reducible exact ieee_Parts.mono _ _)
      | (with_reducible exact tilefarmlaw6_sane.mono _)
      | (with_reducible exact tilefarmref6_Class.mono _ _)
      | (with_reducible exact tilefarmref6_Compare.mono _ _ _)
      | (with_reducible exact tilefarmref6_Parts.mono _ _)
      | (with_reducible exact LeO.refl _)
      | (with_reducible exact LeO.none _)
      | (with_reducible refine LeO.ite ?_ ?_)
      | (with_reducible refine LeO.bind ?_ (fun _ => ?_))
      | exact ih0 _ _
      | exact ih1 _ _ _
      | exact ih2 _ _ _
      | exact ieee_Class.mono _ _
      | exact ieee_Compare.mono _ _ _
      | exact ieee_Parts.mono _ _
      | exact tilefarmlaw6_sane.mono _
      | exact tilefarmref6_Class.mono _ _
      | exact tilefarmref6_Compare.mono _ _ _
      | exact tilefarmref6_Parts.mono _ _
      | exact LeO.none _
      | refine LeO.ite ?_ ?_
      | refine LeO.bind ?_ (fun _ => ?_)
    · intro y0 y1 y2
      unfold tilefarmlaw6_IeeeReads.j1
      repeat' first
      | (with_reducible exact ih0 _ _)
      | (with_reducible exact ih1 _ _ _)
      | (with_reducible exact ih2 _ _ _)
      | (with_reducible exact ieee_Class.mono _ _)
      | (with_reducible exact ieee_Compare.mono _ _ _)
      | (with_reducible exact ieee_Parts.mono _ _)
      | (with_reducible exact tilefarmlaw6_sane.mono _)
      | (with_reducible exact tilefarmref6_Class.mono _ _)
      | (with_reducible exact tilefarmref6_Compare.mono _ _ _)
      | (with_reducible exact tilefarmref6_Parts.mono _ _)
      | (with_reducible exact LeO.refl _)
      | (with_reducible exact LeO.none _)
      | (with_reducible refine LeO.ite ?_ ?_)
      | (with_reducible refine LeO.bind ?_ (fun _ => ?_))
      | exact ih0 _ _
      | exact ih1 _ _ _
      | exact ih2 _ _ _
      | exact ieee_Class.mono _ _
      | exact ieee_Compare.mono _ _ _
      | exact ieee_Parts.mono _ _
      | exact tilefarmlaw6_sane.mono _
      | exact tilefarmref6_Class.mono _ _
      | exact tilefarmref6_Compare.mono _ _ _
      | exact tilefarmref6_Parts.mono _ _
      | exact LeO.none _
      | refine LeO.ite ?_ ?_
      | refine LeO.bind ?_ (fun _ => ?_)
    · intro y0 y1 y2
      unfold tilefarmlaw6_IeeeReads.l1
      repeat' first
      | (with_reducible exact ih0 _ _)
      | (with_reducible exact ih1 _ _ _)
      | (with_reducible exact ih2 _ _ _)
      | (with_reducible exact ieee_Class.mono _ _)
      | (with_reducible exact ieee_Compare.mono _ _ _)
      | (with_reducible exact ieee_Parts.mono _ _)
      | (with_reducible exact tilefarmlaw6_sane.mono _)
      | (with_reducible exact tilefarmref6_Class.mono _ _)
      | (with_reducible exact tilefarmref6_Compare.mono _ _ _)
      | (with_reducible exact tilefarmref6_Parts.mono _ _)
      | (with_reducible exact LeO.refl _)
      | (with_reducible exact LeO.none _)
      | (with_reducible refine LeO.ite ?_ ?_)
      | (with_reducible refine LeO.bind ?_ (fun _ => ?_))
      | exact ih0 _ _
      | exact ih1 _ _ _
      | exact ih2 _ _ _
      | exact ieee_Class.mono _ _
      | exact ieee_Compare.mono _ _ _
      | exact ieee_Parts.mono _ _
      | exact tilefarmlaw6_sane.mono _
      | exact tilefarmref6_Class.mono _ _
      | exact tilefarmref6_Compare.mono _ _ _
      | exact tilefarmref6_Parts.mono _ _
      | exact LeO.none _
      | refine LeO.ite ?_ ?_
      | refine LeO.bind ?_ (fun _ => ?_)
theorem tilefarmlaw6_IeeeReads.mono : ∀ a0 a1 a2 k, LeO (tilefarmlaw6_IeeeReads.f k a0 a1 a2) (tilefarmlaw6_IeeeReads.f (k + 1) a0 a1 a2) := by
  intro a0 a1 a2 k
  obtain ⟨ih0, ih1, ih2⟩ := tilefarmlaw6_IeeeReads.mono_l k
  unfold tilefarmlaw6_IeeeReads.f
  repeat' first
      | (with_reducible exact ih0 _ _)
      | (with_reducible exact ih1 _ _ _)
      | (with_reducible exact ih2 _ _ _)
      | (with_reducible exact ieee_Class.mono _ _)
      | (with_reducible exact ieee_Compare.mono _ _ _)
      | (with_reducible exact ieee_Parts.mono _ _)
      | (with_reducible exact tilefarmlaw6_sane.mono _)
      | (with_reducible exact tilefarmref6_Class.mono _ _)
      | (with_reducible exact tilefarmref6_Compare.mono _ _ _)
      | (with_reducible exact tilefarmref6_Parts.mono _ _)
      | (with_reducible exact LeO.refl _)
      | (with_reducible exact LeO.none _)
      | (with_reducible refine LeO.ite ?_ ?_)
      | (with_reducible refine LeO.bind ?_ (fun _ => ?_))
      | exact ih0 _ _
      | exact ih1 _ _ _
      | exact ih2 _ _ _
      | exact ieee_Class.mono _ _
      | exact ieee_Compare.mono _ _ _
      | exact ieee_Parts.mono _ _
      | exact tilefarmlaw6_sane.mono _
      | exact tilefarmref6_Class.mono _ _
      | exact tilefarmref6_Compare.mono _ _ _
      | exact tilefarmref6_Parts.mono _ _
      | exact LeO.none _
      | refine LeO.ite ?_ ?_
      | refine LeO.bind ?_ (fun _ => ?_)
set_option maxHeartbeats 8000000 in
set_option maxRecDepth 100000 in
theorem tilefarmlaw6_IeeeReads.calls (k : Nat) (A0 : Option Addr) (c0 : Nat) (l0 : List Int) (a1 : Int) (a2 : Int) (r : Bool) (w : World) (hr0 : Kd.C (Kd.int .i64) w A0 l0.length l0) (hc0 : l0.length ≤ c0) (h : tilefarmlaw6_IeeeReads.f k l0 a1 a2 = some r) (hT : r = true := by first | rfl | assumption) :
    Calls Try.prog 5 #[.slice A0 l0.length c0, .int .u64 a1, .int .u64 a2] w fun e w' => e = .returned (.bool r) ∧ Below w.heap.size w w' := by
  have HT := Aside0.mk hT
  clear hT
  have HR0 := Aside0.mk hr0
  have HC0 := Aside0.mk hc0
  clear hr0 hc0
  have HB := Aside0.mk (Below.refl w.heap.size w)
  have H : ((tilefarmgen_New.f l0).bind fun bt190 => ((tilefarmgen_Tape_Bits.f bt190.1 bt190.2).bind fun bt193 => ((tilefarmgen_Tape_Bits.f bt190.1 bt193.2).bind fun bt195 => ((tilefarmgen_Tape_Bits.f bt190.1 bt195.2).bind fun bt197 => (tilefarmlaw6_IeeeReads.l0 k (([a1, a2, bt193.1, bt195.1, bt197.1, Go.bits .xor .u64 a1 9223372036854775808, Go.bits .xor .u64 a2 9223372036854775808] : List Int)) 0))))) = some r := h
  clear h
  replace H := Option.bind_eq_some_iff.mp H
  obtain ⟨⟨t190, t191⟩, A40, H⟩ := H
  replace H : ((tilefarmgen_Tape_Bits.f t190 t191).bind fun bt193 => ((tilefarmgen_Tape_Bits.f t190 bt193.2).bind fun bt195 => ((tilefarmgen_Tape_Bits.f t190 bt195.2).bind fun bt197 => (tilefarmlaw6_IeeeReads.l0 k (([a1, a2, bt193.1, bt195.1, bt197.1, Go.bits .xor .u64 a1 9223372036854775808, Go.bits .xor .u64 a2 9223372036854775808] : List Int)) 0)))) = some r := H
  have A4 := Aside0.mk A40
  clear A40
  replace H := Option.bind_eq_some_iff.mp H
  obtain ⟨⟨t193, t194⟩, A50, H⟩ := H
  replace H : ((tilefarmgen_Tape_Bits.f t190 t194).bind fun bt195 => ((tilefarmgen_Tape_Bits.f t190 bt195.2).bind fun bt197 => (tilefarmlaw6_IeeeReads.l0 k (([a1, a2, t193, bt195.1, bt197.1, Go.bits .xor .u64 a1 9223372036854775808, Go.bits .xor .u64 a2 9223372036854775808] : List Int)) 0))) = some r := H
  have A5 := Aside0.mk A50
  clear A50
  replace H := Option.bind_eq_some_iff.mp H
  obtain ⟨⟨t195, t196⟩, A60, H⟩ := H
  replace H : ((tilefarmgen_Tape_Bits.f t190 t196).bind fun bt197 => (tilefarmlaw6_IeeeReads.l0 k (([a1, a2, t193, t195, bt197.1, Go.bits .xor .u64 a1 9223372036854775808, Go.bits .xor .u64 a2 9223372036854775808] : List Int)) 0)) = some r := H
  have A6 := Aside0.mk A60
  clear A60
  replace H := Option.bind_eq_some_iff.mp H
  obtain ⟨⟨t197, t198⟩, A70, H⟩ := H
  replace H : (tilefarmlaw6_IeeeReads.l0 k (([a1, a2, t193, t195, t197, Go.bits .xor .u64 a1 9223372036854775808, Go.bits .xor .u64 a2 9223372036854775808] : List Int)) 0) = some r := H
  have A7 := Aside0.mk A70
  clear A70
  obtain ⟨y199, hy199⟩ : ∃ y_ : List Int, y_ = (([a1, a2, t193, t195, t197, Go.bits .xor .u64 a1 9223372036854775808, Go.bits .xor .u64 a2 9223372036854775808] : List Int)) := ⟨_, rfl⟩
  replace H : (tilefarmlaw6_IeeeReads.l0 k y199 0) = some r := by first | (rw [hy199]; with_reducible exact H) | (have H2_ := (Option.bind_some _ _).symm.trans H; rw [hy199]; with_reducible exact H2_) | (have H2_ := (Option.bind_some _ _).symm.trans H; with_reducible exact H2_) | with_reducible exact H | (rw [hy199]; exact H) | exact H
  have Ny199 := Aside0.mk hy199
  clear hy199
  have H' := Aside0.mk H
  clear H
  go_enter Try.func5, Try.ntmps5
  go_wp2_with (first | (go_at_call 8; (with_reducible refine (tilefarmgen_New.calls _ _ l0 t190 t191 w _ ?side1 ?side2 ?side3 A4.out).mono ?_); (case side1 => repeat (first | (with_reducible first | exact HB.out | apply below_alloc | apply pw_below_drewN | apply below_drew1) | exact HB.out)); (case side2 => exact HR0.out); (case side3 => exact HC0.out); rintro e w8 ⟨g192, rfl, hi, hb, hb2⟩; have n0_ := Aside0.mk (hb); have n1_ := Aside0.mk (hi); clear HB; have HB := n0_; have HI192 := n1_; clear n0_ n1_; (try clear hb); (try clear hb2); (try clear hk); (try clear hi)) | (go_at_call 9; (with_reducible refine (tilefarmgen_Tape_Bits.calls g192 t190 t191 t193 t194 w _ ?side1 ?side2 A5.out).mono ?_); (case side1 => repeat (first | (with_reducible first | exact HI192.out | apply IsS49.alloc | apply IsS49.drewN | apply IsS49.drew | apply IsS49.set_1) | exact HI192.out)); (case side2 => repeat (first | (with_reducible first | exact HB.out | apply below_alloc | apply pw_below_drewN | apply below_drew1 | refine below_set ?_ (IsS49.ge HI192.out)) | exact HB.out)); rintro e w9 ⟨rfl, hi, hb, hk⟩; have n0_ := Aside0.mk (hb); have n1_ := Aside0.mk (hi); clear HB; clear HI192; have HB := n0_; have HI192 := n1_; clear n0_ n1_; (try clear hb); (try clear hb2); (try clear hk); (try clear hi)) | (go_at_call 9; (with_reducible refine (tilefarmgen_Tape_Bits.calls g192 t190 t194 t195 t196 w _ ?side1 ?side2 A6.out).mono ?_); (case side1 => repeat (first | (with_reducible first | exact HI192.out | apply IsS49.alloc | apply IsS49.drewN | apply IsS49.drew | apply IsS49.set_1) | exact HI192.out)); (case side2 => repeat (first | (with_reducible first | exact HB.out | apply below_alloc | apply pw_below_drewN | apply below_drew1 | refine below_set ?_ (IsS49.ge HI192.out)) | exact HB.out)); rintro e w10 ⟨rfl, hi, hb, hk⟩; have n0_ := Aside0.mk (hb); have n1_ := Aside0.mk (hi); clear HB; clear HI192; have HB := n0_; have HI192 := n1_; clear n0_ n1_; (try clear hb); (try clear hb2); (try clear hk); (try clear hi)) | (go_at_call 9; (with_reducible refine (tilefarmgen_Tape_Bits.calls g192 t190 t196 t197 t198 w _ ?side1 ?side2 A7.out).mono ?_); (case side1 => repeat (first | (with_reducible first | exact HI192.out | apply IsS49.alloc | apply IsS49.drewN | apply IsS49.drew | apply IsS49.set_1) | exact HI192.out)); (case side2 => repeat (first | (with_reducible first | exact HB.out | apply below_alloc | apply pw_below_drewN | apply below_drew1 | refine below_set ?_ (IsS49.ge HI192.out)) | exact HB.out)); rintro e w11 ⟨rfl, hi, hb, hk⟩; have n0_ := Aside0.mk (hb); have n1_ := Aside0.mk (hi); clear HB; clear HI192; have HB := n0_; have HI192 := n1_; clear n0_ n1_; (try clear hb); (try clear hb2); (try clear hk); (try clear hi)) | ((with_reducible refine gate_dst (N := 35) rfl ?_); refine Kd.R_lit (Kd.int .u64) _ 23 ?hg (N := 35) ?hd (xs := ([a1, a2, t193, t195, t197, Go.bits .xor .u64 a1 9223372036854775808, Go.bits .xor .u64 a2 9223372036854775808] : List Int)) (inner := [.int .u64 a1, .int .u64 a2, .int .u64 t193, .int .u64 t195, .int .u64 t197, .int .u64 (Go.bits .xor .u64 a1 9223372036854775808), .int .u64 (Go.bits .xor .u64 a2 9223372036854775808)]) (ok := fun _ => True) (okp := fun _ => True) ?hr ?hp (fun _ hk => hk) trivial (Below.refl _ _) (Nat.le_refl _) (by simp) ?_; (case hd => rfl); (case hg => rfl); (case hr => first | (go_simp; done) | (go_simp; rfl)); (case hp => exact (Reps.one (show Kd.M (Kd.int .u64) _ _ _ a1 [.int .u64 a1] from rfl) (Reps.one (show Kd.M (Kd.int .u64) _ _ _ a2 [.int .u64 a2] from rfl) (Reps.one (show Kd.M (Kd.int .u64) _ _ _ t193 [.int .u64 t193] from rfl) (Reps.one (show Kd.M (Kd.int .u64) _ _ _ t195 [.int .u64 t195] from rfl) (Reps.one (show Kd.M (Kd.int .u64) _ _ _ t197 [.int .u64 t197] from rfl) (Reps.one (show Kd.M (Kd.int .u64) _ _ _ (Go.bits .xor .u64 a1 9223372036854775808) [.int .u64 (Go.bits .xor .u64 a1 9223372036854775808)] from rfl) (Reps.one (show Kd.M (Kd.int .u64) _ _ _ (Go.bits .xor .u64 a2 9223372036854775808) [.int .u64 (Go.bits .xor .u64 a2 9223372036854775808)] from rfl) (Reps.none _ _))))))))); intro v200 w12 ho13 hb hg_ hnew_; clear hg_ hnew_; (first | rw [← Ny199.out] at ho13 | (simp only [Int.reduceToNat] at ho13; rw [← Ny199.out] at ho13)); have n0_ := Aside0.mk (Kd.R_lower ho13 (below_size (by repeat (first | (with_reducible first | exact HB.out | apply below_alloc | apply pw_below_drewN | apply below_drew1 | refine below_set ?_ (IsS49.ge HI192.out)) | exact HB.out)))); have n1_ := Aside0.mk (IsS49.below (by repeat (first | (with_reducible first | exact HI192.out | apply IsS49.alloc | apply IsS49.drewN | apply IsS49.drew | apply IsS49.set_1) | exact HI192.out)) hb); have n2_ := Aside0.mk (below_step (by repeat (first | (with_reducible first | exact HB.out | apply below_alloc | apply pw_below_drewN | apply below_drew1 | refine below_set ?_ (IsS49.ge HI192.out)) | exact HB.out)) hb); clear HI192; clear HB; have HO201 := n0_; have HI192 := n1_; have HB := n2_; clear n0_ n1_ n2_; clear hb ho13))
  repeat (go_quiet (first | (go_at_call 8; (with_reducible refine (tilefarmgen_New.calls _ _ l0 t190 t191 w _ ?side1 ?side2 ?side3 A4.out).mono ?_); (case side1 => repeat (first | (with_reducible first | exact HB.out | apply below_alloc | apply pw_below_drewN | apply below_drew1) | exact HB.out)); (case side2 => exact HR0.out); (case side3 => exact HC0.out); rintro e w8 ⟨g192, rfl, hi, hb, hb2⟩; have n0_ := Aside0.mk (hb); have n1_ := Aside0.mk (hi); clear HB; have HB := n0_; have HI192 := n1_; clear n0_ n1_; (try clear hb); (try clear hb2); (try clear hk); (try clear hi)) | (go_at_call 9; (with_reducible refine (tilefarmgen_Tape_Bits.calls g192 t190 t191 t193 t194 w _ ?side1 ?side2 A5.out).mono ?_); (case side1 => repeat (first | (with_reducible first | exact HI192.out | apply IsS49.alloc | apply IsS49.drewN | apply IsS49.drew | apply IsS49.set_1) | exact HI192.out)); (case side2 => repeat (first | (with_reducible first | exact HB.out | apply below_alloc | apply pw_below_drewN | apply below_drew1 | refine below_set ?_ (IsS49.ge HI192.out)) | exact HB.out)); rintro e w9 ⟨rfl, hi, hb, hk⟩; have n0_ := Aside0.mk (hb); have n1_ := Aside0.mk (hi); clear HB; clear HI192; have HB := n0_; have HI192 := n1_; clear n0_ n1_; (try clear hb); (try clear hb2); (try clear hk); (try clear hi)) | (go_at_call 9; (with_reducible refine (tilefarmgen_Tape_Bits.calls g192 t190 t194 t195 t196 w _ ?side1 ?side2 A6.out).mono ?_); (case side1 => repeat (first | (with_reducible first | exact HI192.out | apply IsS49.alloc | apply IsS49.drewN | apply IsS49.drew | apply IsS49.set_1) | exact HI192.out)); (case side2 => repeat (first | (with_reducible first | exact HB.out | apply below_alloc | apply pw_below_drewN | apply below_drew1 | refine below_set ?_ (IsS49.ge HI192.out)) | exact HB.out)); rintro e w10 ⟨rfl, hi, hb, hk⟩; have n0_ := Aside0.mk (hb); have n1_ := Aside0.mk (hi); clear HB; clear HI192; have HB := n0_; have HI192 := n1_; clear n0_ n1_; (try clear hb); (try clear hb2); (try clear hk); (try clear hi)) | (go_at_call 9; (with_reducible refine (tilefarmgen_Tape_Bits.calls g192 t190 t196 t197 t198 w _ ?side1 ?side2 A7.out).mono ?_); (case side1 => repeat (first | (with_reducible first | exact HI192.out | apply IsS49.alloc | apply IsS49.drewN | apply IsS49.drew | apply IsS49.set_1) | exact HI192.out)); (case side2 => repeat (first | (with_reducible first | exact HB.out | apply below_alloc | apply pw_below_drewN | apply below_drew1 | refine below_set ?_ (IsS49.ge HI192.out)) | exact HB.out)); rintro e w11 ⟨rfl, hi, hb, hk⟩; have n0_ := Aside0.mk (hb); have n1_ := Aside0.mk (hi); clear HB; clear HI192; have HB := n0_; have HI192 := n1_; clear n0_ n1_; (try clear hb); (try clear hb2); (try clear hk); (try clear hi)) | ((with_reducible refine gate_dst (N := 35) rfl ?_); refine Kd.R_lit (Kd.int .u64) _ 23 ?hg (N := 35) ?hd (xs := ([a1, a2, t193, t195, t197, Go.bits .xor .u64 a1 9223372036854775808, Go.bits .xor .u64 a2 9223372036854775808] : List Int)) (inner := [.int .u64 a1, .int .u64 a2, .int .u64 t193, .int .u64 t195, .int .u64 t197, .int .u64 (Go.bits .xor .u64 a1 9223372036854775808), .int .u64 (Go.bits .xor .u64 a2 9223372036854775808)]) (ok := fun _ => True) (okp := fun _ => True) ?hr ?hp (fun _ hk => hk) trivial (Below.refl _ _) (Nat.le_refl _) (by simp) ?_; (case hd => rfl); (case hg => rfl); (case hr => first | (go_simp; done) | (go_simp; rfl)); (case hp => exact (Reps.one (show Kd.M (Kd.int .u64) _ _ _ a1 [.int .u64 a1] from rfl) (Reps.one (show Kd.M (Kd.int .u64) _ _ _ a2 [.int .u64 a2] from rfl) (Reps.one (show Kd.M (Kd.int .u64) _ _ _ t193 [.int .u64 t193] from rfl) (Reps.one (show Kd.M (Kd.int .u64) _ _ _ t195 [.int .u64 t195] from rfl) (Reps.one (show Kd.M (Kd.int .u64) _ _ _ t197 [.int .u64 t197] from rfl) (Reps.one (show Kd.M (Kd.int .u64) _ _ _ (Go.bits .xor .u64 a1 9223372036854775808) [.int .u64 (Go.bits .xor .u64 a1 9223372036854775808)] from rfl) (Reps.one (show Kd.M (Kd.int .u64) _ _ _ (Go.bits .xor .u64 a2 9223372036854775808) [.int .u64 (Go.bits .xor .u64 a2 9223372036854775808)] from rfl) (Reps.none _ _))))))))); intro v200 w12 ho13 hb hg_ hnew_; clear hg_ hnew_; (first | rw [← Ny199.out] at ho13 | (simp only [Int.reduceToNat] at ho13; rw [← Ny199.out] at ho13)); have n0_ := Aside0.mk (Kd.R_lower ho13 (below_size (by repeat (first | (with_reducible first | exact HB.out | apply below_alloc | apply pw_below_drewN | apply below_drew1 | refine below_set ?_ (IsS49.ge HI192.out)) | exact HB.out)))); have n1_ := Aside0.mk (IsS49.below (by repeat (first | (with_reducible first | exact HI192.out | apply IsS49.alloc | apply IsS49.drewN | apply IsS49.drew | apply IsS49.set_1) | exact HI192.out)) hb); have n2_ := Aside0.mk (below_step (by repeat (first | (with_reducible first | exact HB.out | apply below_alloc | apply pw_below_drewN | apply below_drew1 | refine below_set ?_ (IsS49.ge HI192.out)) | exact HB.out)) hb); clear HI192; clear HB; have HO201 := n0_; have HI192 := n1_; have HB := n2_; clear n0_ n1_ n2_; clear hb ho13)); try go_wp2_with (first | (go_at_call 8; (with_reducible refine (tilefarmgen_New.calls _ _ l0 t190 t191 w _ ?side1 ?side2 ?side3 A4.out).mono ?_); (case side1 => repeat (first | (with_reducible first | exact HB.out | apply below_alloc | apply pw_below_drewN | apply below_drew1) | exact HB.out)); (case side2 => exact HR0.out); (case side3 => exact HC0.out); rintro e w8 ⟨g192, rfl, hi, hb, hb2⟩; have n0_ := Aside0.mk (hb); have n1_ := Aside0.mk (hi); clear HB; have HB := n0_; have HI192 := n1_; clear n0_ n1_; (try clear hb); (try clear hb2); (try clear hk); (try clear hi)) | (go_at_call 9; (with_reducible refine (tilefarmgen_Tape_Bits.calls g192 t190 t191 t193 t194 w _ ?side1 ?side2 A5.out).mono ?_); (case side1 => repeat (first | (with_reducible first | exact HI192.out | apply IsS49.alloc | apply IsS49.drewN | apply IsS49.drew | apply IsS49.set_1) | exact HI192.out)); (case side2 => repeat (first | (with_reducible first | exact HB.out | apply below_alloc | apply pw_below_drewN | apply below_drew1 | refine below_set ?_ (IsS49.ge HI192.out)) | exact HB.out)); rintro e w9 ⟨rfl, hi, hb, hk⟩; have n0_ := Aside0.mk (hb); have n1_ := Aside0.mk (hi); clear HB; clear HI192; have HB := n0_; have HI192 := n1_; clear n0_ n1_; (try clear hb); (try clear hb2); (try clear hk); (try clear hi)) | (go_at_call 9; (with_reducible refine (tilefarmgen_Tape_Bits.calls g192 t190 t194 t195 t196 w _ ?side1 ?side2 A6.out).mono ?_); (case side1 => repeat (first | (with_reducible first | exact HI192.out | apply IsS49.alloc | apply IsS49.drewN | apply IsS49.drew | apply IsS49.set_1) | exact HI192.out)); (case side2 => repeat (first | (with_reducible first | exact HB.out | apply below_alloc | apply pw_below_drewN | apply below_drew1 | refine below_set ?_ (IsS49.ge HI192.out)) | exact HB.out)); rintro e w10 ⟨rfl, hi, hb, hk⟩; have n0_ := Aside0.mk (hb); have n1_ := Aside0.mk (hi); clear HB; clear HI192; have HB := n0_; have HI192 := n1_; clear n0_ n1_; (try clear hb); (try clear hb2); (try clear hk); (try clear hi)) | (go_at_call 9; (with_reducible refine (tilefarmgen_Tape_Bits.calls g192 t190 t196 t197 t198 w _ ?side1 ?side2 A7.out).mono ?_); (case side1 => repeat (first | (with_reducible first | exact HI192.out | apply IsS49.alloc | apply IsS49.drewN | apply IsS49.drew | apply IsS49.set_1) | exact HI192.out)); (case side2 => repeat (first | (with_reducible first | exact HB.out | apply below_alloc | apply pw_below_drewN | apply below_drew1 | refine below_set ?_ (IsS49.ge HI192.out)) | exact HB.out)); rintro e w11 ⟨rfl, hi, hb, hk⟩; have n0_ := Aside0.mk (hb); have n1_ := Aside0.mk (hi); clear HB; clear HI192; have HB := n0_; have HI192 := n1_; clear n0_ n1_; (try clear hb); (try clear hb2); (try clear hk); (try clear hi)) | ((with_reducible refine gate_dst (N := 35) rfl ?_); refine Kd.R_lit (Kd.int .u64) _ 23 ?hg (N := 35) ?hd (xs := ([a1, a2, t193, t195, t197, Go.bits .xor .u64 a1 9223372036854775808, Go.bits .xor .u64 a2 9223372036854775808] : List Int)) (inner := [.int .u64 a1, .int .u64 a2, .int .u64 t193, .int .u64 t195, .int .u64 t197, .int .u64 (Go.bits .xor .u64 a1 9223372036854775808), .int .u64 (Go.bits .xor .u64 a2 9223372036854775808)]) (ok := fun _ => True) (okp := fun _ => True) ?hr ?hp (fun _ hk => hk) trivial (Below.refl _ _) (Nat.le_refl _) (by simp) ?_; (case hd => rfl); (case hg => rfl); (case hr => first | (go_simp; done) | (go_simp; rfl)); (case hp => exact (Reps.one (show Kd.M (Kd.int .u64) _ _ _ a1 [.int .u64 a1] from rfl) (Reps.one (show Kd.M (Kd.int .u64) _ _ _ a2 [.int .u64 a2] from rfl) (Reps.one (show Kd.M (Kd.int .u64) _ _ _ t193 [.int .u64 t193] from rfl) (Reps.one (show Kd.M (Kd.int .u64) _ _ _ t195 [.int .u64 t195] from rfl) (Reps.one (show Kd.M (Kd.int .u64) _ _ _ t197 [.int .u64 t197] from rfl) (Reps.one (show Kd.M (Kd.int .u64) _ _ _ (Go.bits .xor .u64 a1 9223372036854775808) [.int .u64 (Go.bits .xor .u64 a1 9223372036854775808)] from rfl) (Reps.one (show Kd.M (Kd.int .u64) _ _ _ (Go.bits .xor .u64 a2 9223372036854775808) [.int .u64 (Go.bits .xor .u64 a2 9223372036854775808)] from rfl) (Reps.none _ _))))))))); intro v200 w12 ho13 hb hg_ hnew_; clear hg_ hnew_; (first | rw [← Ny199.out] at ho13 | (simp only [Int.reduceToNat] at ho13; rw [← Ny199.out] at ho13)); have n0_ := Aside0.mk (Kd.R_lower ho13 (below_size (by repeat (first | (with_reducible first | exact HB.out | apply below_alloc | apply pw_below_drewN | apply below_drew1 | refine below_set ?_ (IsS49.ge HI192.out)) | exact HB.out)))); have n1_ := Aside0.mk (IsS49.below (by repeat (first | (with_reducible first | exact HI192.out | apply IsS49.alloc | apply IsS49.drewN | apply IsS49.drew | apply IsS49.set_1) | exact HI192.out)) hb); have n2_ := Aside0.mk (below_step (by repeat (first | (with_reducible first | exact HB.out | apply below_alloc | apply pw_below_drewN | apply below_drew1 | refine below_set ?_ (IsS49.ge HI192.out)) | exact HB.out)) hb); clear HI192; clear HB; have HO201 := n0_; have HI192 := n1_; have HB := n2_; clear n0_ n1_ n2_; clear hb ho13)))
  go_loopg [9] k (fun kq v9 w' => ∃ (x9_1 : Int), v9 = .int .i64 x9_1 ∧ Aside0 (tilefarmlaw6_IeeeReads.l0 kq y199 x9_1 = some r) ∧ Aside0 (kq ≤ k) ∧ Aside0 (Kd.R (Kd.int .u64) 23 w' w.heap.size (fun _ => True) v200 y199) ∧ Aside0 (Below w.heap.size w w'))
  case atStart => exact ⟨(0), (by first | rfl | (simp; done) | (simp [*]; done)), H', ⟨Nat.le_refl _⟩, ⟨by (with_reducible repeat (first | apply Kd.R_alloc | apply Kd.R_drewN | apply Kd.R_drew)); exact HO201.out⟩, ⟨by repeat (first | (with_reducible first | exact HB.out | apply below_alloc | apply pw_below_drewN | apply below_drew1 | refine below_set ?_ (IsS49.ge HI192.out)) | exact HB.out)⟩⟩
  case round =>
    clear H'
    try clear p2
    try clear c5
    obtain ⟨x9_1, rfl, HA, HK1, HO_8, HB⟩ := hrel
    cases gk with
    | zero => exact absurd HA.out (by simp [tilefarmlaw6_IeeeReads.l0])
    | succ k1 =>
      have H := HA.out
      clear HA
      simp only [tilefarmlaw6_IeeeReads.l0] at H
      by_cases c14 : x9_1 < (y199.length : Int)
      · rw [if_pos c14] at H
        have c14b0 : decide (x9_1 < (y199.length : Int)) = true := decide_eq_true c14
        clear c14
        by_cases c15 : 0 ≤ x9_1
        · rw [if_pos c15] at H
          have c15b0 : decide (0 ≤ x9_1) = true := decide_eq_true c15
          clear c15
          replace H := Option.bind_eq_some_iff.mp H
          obtain ⟨⟨t204, t205, t206⟩, A160, H⟩ := H
          replace H : ((tilefarmref6_Parts.f k1 (rd y199 x9_1)).bind fun bt208 => (if t204 = bt208.1 then (if t205 = bt208.2.1 then (if (t206 != bt208.2.2) = true then (tilefarmlaw6_IeeeReads.j1 k1 y199 x9_1 true) else ((ieee_Class.f k1 (rd y199 x9_1)).bind fun t212 => ((tilefarmref6_Class.f k1 (rd y199 x9_1)).bind fun t214 => (tilefarmlaw6_IeeeReads.j1 k1 y199 x9_1 (t212 != t214))))) else (tilefarmlaw6_IeeeReads.j1 k1 y199 x9_1 true)) else (tilefarmlaw6_IeeeReads.j1 k1 y199 x9_1 true))) = some r := H
          have A16 := Aside0.mk A160
          clear A160
          replace H := Option.bind_eq_some_iff.mp H
          obtain ⟨⟨t208, t209, t210⟩, A170, H⟩ := H
          replace H : (if t204 = t208 then (if t205 = t209 then (if (t206 != t210) = true then (tilefarmlaw6_IeeeReads.j1 k1 y199 x9_1 true) else ((ieee_Class.f k1 (rd y199 x9_1)).bind fun t212 => ((tilefarmref6_Class.f k1 (rd y199 x9_1)).bind fun t214 => (tilefarmlaw6_IeeeReads.j1 k1 y199 x9_1 (t212 != t214))))) else (tilefarmlaw6_IeeeReads.j1 k1 y199 x9_1 true)) else (tilefarmlaw6_IeeeReads.j1 k1 y199 x9_1 true)) = some r := H
          have A17 := Aside0.mk A170
          clear A170
          have HC18 := Aside0.mk H
          clear H
          obtain ⟨Ao19, co19, eo19⟩ := Kd.R_slice HO_8.out
          subst eo19
          have p203 : 0 ≤ (x9_1 : Int) := of_decide_eq_true (by first | (with_reducible assumption) | assumption)
          have q203 : x9_1 < (y199.length : Int) := of_decide_eq_true (by first | (with_reducible assumption) | assumption)
          obtain ⟨ad203, e203, hx203_0⟩ := Kd.at_int (Kd.R_reads' HO_8.out).2.2 x9_1 p203 q203
          cases e203
          replace p203 := eq_true p203
          replace q203 := eq_true q203
          go_upto_region 8 with (first | (go_at_call 19; (with_reducible refine (ieee_Parts.calls k1 (rd y199 x9_1) t204 t205 t206 _ A16.out).mono ?_); rintro e w' ⟨rfl, ⟨nd, rfl⟩⟩; (try first | exact ⟨rfl, _, World.drewN_drewN _ _ _⟩ | exact ⟨rfl, _, Eq.trans (World.drewN_drewN _ _ _) (congrArg (World.drewN _) (Nat.add_assoc _ _ _))⟩); have p207 : 0 ≤ (x9_1 : Int) := of_decide_eq_true (by first | (with_reducible assumption) | assumption); have q207 : x9_1 < (y199.length : Int) := of_decide_eq_true (by first | (with_reducible assumption) | assumption); obtain ⟨ad207, e207, hx207_0⟩ := Kd.at_int (Kd.R_reads' HO_8.out).2.2 x9_1 p207 q207; obtain rfl : ad203 = ad207 := (by injection e207); replace p207 := eq_true p207; replace q207 := eq_true q207) | (go_at_call 20; (with_reducible refine (tilefarmref6_Parts.calls k1 (rd y199 x9_1) t208 t209 t210 _ A17.out).mono ?_); rintro e w' ⟨rfl, ⟨nd, rfl⟩⟩; (try first | exact ⟨rfl, _, World.drewN_drewN _ _ _⟩ | exact ⟨rfl, _, Eq.trans (World.drewN_drewN _ _ _) (congrArg (World.drewN _) (Nat.add_assoc _ _ _))⟩)))
          repeat (go_quiet (first | (go_at_call 19; (with_reducible refine (ieee_Parts.calls k1 (rd y199 x9_1) t204 t205 t206 _ A16.out).mono ?_); rintro e w' ⟨rfl, ⟨nd, rfl⟩⟩; (try first | exact ⟨rfl, _, World.drewN_drewN _ _ _⟩ | exact ⟨rfl, _, Eq.trans (World.drewN_drewN _ _ _) (congrArg (World.drewN _) (Nat.add_assoc _ _ _))⟩); have p207 : 0 ≤ (x9_1 : Int) := of_decide_eq_true (by first | (with_reducible assumption) | assumption); have q207 : x9_1 < (y199.length : Int) := of_decide_eq_true (by first | (with_reducible assumption) | assumption); obtain ⟨ad207, e207, hx207_0⟩ := Kd.at_int (Kd.R_reads' HO_8.out).2.2 x9_1 p207 q207; obtain rfl : ad203 = ad207 := (by injection e207); replace p207 := eq_true p207; replace q207 := eq_true q207) | (go_at_call 20; (with_reducible refine (tilefarmref6_Parts.calls k1 (rd y199 x9_1) t208 t209 t210 _ A17.out).mono ?_); rintro e w' ⟨rfl, ⟨nd, rfl⟩⟩; (try first | exact ⟨rfl, _, World.drewN_drewN _ _ _⟩ | exact ⟨rfl, _, Eq.trans (World.drewN_drewN _ _ _) (congrArg (World.drewN _) (Nat.add_assoc _ _ _))⟩))); go_upto_region 8 with (first | (go_at_call 19; (with_reducible refine (ieee_Parts.calls k1 (rd y199 x9_1) t204 t205 t206 _ A16.out).mono ?_); rintro e w' ⟨rfl, ⟨nd, rfl⟩⟩; (try first | exact ⟨rfl, _, World.drewN_drewN _ _ _⟩ | exact ⟨rfl, _, Eq.trans (World.drewN_drewN _ _ _) (congrArg (World.drewN _) (Nat.add_assoc _ _ _))⟩); have p207 : 0 ≤ (x9_1 : Int) := of_decide_eq_true (by first | (with_reducible assumption) | assumption); have q207 : x9_1 < (y199.length : Int) := of_decide_eq_true (by first | (with_reducible assumption) | assumption); obtain ⟨ad207, e207, hx207_0⟩ := Kd.at_int (Kd.R_reads' HO_8.out).2.2 x9_1 p207 q207; obtain rfl : ad203 = ad207 := (by injection e207); replace p207 := eq_true p207; replace q207 := eq_true q207) | (go_at_call 20; (with_reducible refine (tilefarmref6_Parts.calls k1 (rd y199 x9_1) t208 t209 t210 _ A17.out).mono ?_); rintro e w' ⟨rfl, ⟨nd, rfl⟩⟩; (try first | exact ⟨rfl, _, World.drewN_drewN _ _ _⟩ | exact ⟨rfl, _, Eq.trans (World.drewN_drewN _ _ _) (congrArg (World.drewN _) (Nat.add_assoc _ _ _))⟩))))
          (try simp only [Act.put, List.setIfInBounds_toArray, List.set_cons_zero, List.set_cons_succ])
          go_cut [85] (fun v85 wc => ∃ (kq : Nat) (x85_17 : Bool), v85 = .bool x85_17 ∧ Aside0 (tilefarmlaw6_IeeeReads.j1 kq y199 x9_1 x85_17 = some r) ∧ Aside0 (kq ≤ k1) ∧ Aside0 (Kd.R (Kd.int .u64) 23 wc w.heap.size (fun _ => True) (.slice (some ad203) y199.length co19) y199) ∧ Aside0 (Below w.heap.size w wc))
          case first =>
            have H := HC18.out
            clear HC18
            by_cases c20 : t204 = t208
            · rw [if_pos c20] at H
              have c20b0 : (t204 == t208) = true := beq_iff_eq.mpr c20
              have c20b1 : (t204 != t208) = false := bne_eq_false_iff_eq.mpr c20
              clear c20
              (first | rw [c20b0] | (simp only [i64_w, i32_w]; rw [c20b0]) | skip)
              by_cases c21 : t205 = t209
              · rw [if_pos c21] at H
                have c21b0 : (t205 == t209) = true := beq_iff_eq.mpr c21
                have c21b1 : (t205 != t209) = false := bne_eq_false_iff_eq.mpr c21
                clear c21
                by_cases c22 : (t206 != t210) = true
                · rw [if_pos c22] at H
                  have c22b0 : (t206 != t210) = true := c22
                  (try (have c22b1 : decide (t206 = t210) = false := by simpa using c22))
                  (try (have c22b2 : (t206 == t210) = false := by simpa using c22))
                  (try (have c22b3 : ¬ (t206 = t210) := by simpa using c22))
                  clear c22
                  have H' := Aside0.mk H
                  clear H
                  go_wp2
                  repeat (go_quiet (fail); try go_wp2)
                  go_meet
                  case rel => exact ⟨_, (true), (by first | rfl | (simp; done) | (simp [*]; done)), H', ⟨by have := HK1.out; first | omega | exact Nat.le_refl _⟩, ⟨by (with_reducible repeat (first | apply Kd.R_alloc | apply Kd.R_drewN | apply Kd.R_drew)); exact HO_8.out⟩, ⟨by repeat (first | (with_reducible first | exact HB.out | apply below_alloc | apply pw_below_drewN | apply below_drew1) | exact HB.out)⟩⟩
                · rw [if_neg c22] at H
                  have c22b0 : (t206 != t210) = false := by simpa using c22
                  (try (have c22b1 : decide (t206 = t210) = true := by simpa using c22))
                  (try (have c22b2 : (t206 == t210) = true := by simpa using c22))
                  clear c22
                  replace H := Option.bind_eq_some_iff.mp H
                  obtain ⟨t212, A230, H⟩ := H
                  replace H : ((tilefarmref6_Class.f k1 (rd y199 x9_1)).bind fun t214 => (tilefarmlaw6_IeeeReads.j1 k1 y199 x9_1 (t212 != t214))) = some r := H
                  have A23 := Aside0.mk A230
                  clear A230
                  replace H := Option.bind_eq_some_iff.mp H
                  obtain ⟨t214, A240, H⟩ := H
                  replace H : (tilefarmlaw6_IeeeReads.j1 k1 y199 x9_1 (t212 != t214)) = some r := H
                  have A24 := Aside0.mk A240
                  clear A240
                  have H' := Aside0.mk H
                  clear H
                  have p211 : 0 ≤ (x9_1 : Int) := of_decide_eq_true (by first | (with_reducible assumption) | assumption)
                  have q211 : x9_1 < (y199.length : Int) := of_decide_eq_true (by first | (with_reducible assumption) | assumption)
                  obtain ⟨ad211, e211, hx211_0⟩ := Kd.at_int (Kd.R_reads' HO_8.out).2.2 x9_1 p211 q211
                  obtain rfl : ad203 = ad211 := (by injection e211)
                  replace p211 := eq_true p211
                  replace q211 := eq_true q211
                  go_wp2_with (first | (go_at_call 21; (with_reducible refine (ieee_Class.calls k1 (rd y199 x9_1) t212 _ A23.out).mono ?_); rintro e w' ⟨rfl, ⟨nd, rfl⟩⟩; (try first | exact ⟨rfl, _, World.drewN_drewN _ _ _⟩ | exact ⟨rfl, _, Eq.trans (World.drewN_drewN _ _ _) (congrArg (World.drewN _) (Nat.add_assoc _ _ _))⟩); have p213 : 0 ≤ (x9_1 : Int) := of_decide_eq_true (by first | (with_reducible assumption) | assumption); have q213 : x9_1 < (y199.length : Int) := of_decide_eq_true (by first | (with_reducible assumption) | assumption); obtain ⟨ad213, e213, hx213_0⟩ := Kd.at_int (Kd.R_reads' HO_8.out).2.2 x9_1 p213 q213; obtain rfl : ad203 = ad213 := (by injection e213); replace p213 := eq_true p213; replace q213 := eq_true q213) | (go_at_call 22; (with_reducible refine (tilefarmref6_Class.calls k1 (rd y199 x9_1) t214 _ A24.out).mono ?_); rintro e w' ⟨rfl, ⟨nd, rfl⟩⟩; (try first | exact ⟨rfl, _, World.drewN_drewN _ _ _⟩ | exact ⟨rfl, _, Eq.trans (World.drewN_drewN _ _ _) (congrArg (World.drewN _) (Nat.add_assoc _ _ _))⟩)))
                  repeat (go_quiet (first | (go_at_call 21; (with_reducible refine (ieee_Class.calls k1 (rd y199 x9_1) t212 _ A23.out).mono ?_); rintro e w' ⟨rfl, ⟨nd, rfl⟩⟩; (try first | exact ⟨rfl, _, World.drewN_drewN _ _ _⟩ | exact ⟨rfl, _, Eq.trans (World.drewN_drewN _ _ _) (congrArg (World.drewN _) (Nat.add_assoc _ _ _))⟩); have p213 : 0 ≤ (x9_1 : Int) := of_decide_eq_true (by first | (with_reducible assumption) | assumption); have q213 : x9_1 < (y199.length : Int) := of_decide_eq_true (by first | (with_reducible assumption) | assumption); obtain ⟨ad213, e213, hx213_0⟩ := Kd.at_int (Kd.R_reads' HO_8.out).2.2 x9_1 p213 q213; obtain rfl : ad203 = ad213 := (by injection e213); replace p213 := eq_true p213; replace q213 := eq_true q213) | (go_at_call 22; (with_reducible refine (tilefarmref6_Class.calls k1 (rd y199 x9_1) t214 _ A24.out).mono ?_); rintro e w' ⟨rfl, ⟨nd, rfl⟩⟩; (try first | exact ⟨rfl, _, World.drewN_drewN _ _ _⟩ | exact ⟨rfl, _, Eq.trans (World.drewN_drewN _ _ _) (congrArg (World.drewN _) (Nat.add_assoc _ _ _))⟩))); try go_wp2_with (first | (go_at_call 21; (with_reducible refine (ieee_Class.calls k1 (rd y199 x9_1) t212 _ A23.out).mono ?_); rintro e w' ⟨rfl, ⟨nd, rfl⟩⟩; (try first | exact ⟨rfl, _, World.drewN_drewN _ _ _⟩ | exact ⟨rfl, _, Eq.trans (World.drewN_drewN _ _ _) (congrArg (World.drewN _) (Nat.add_assoc _ _ _))⟩); have p213 : 0 ≤ (x9_1 : Int) := of_decide_eq_true (by first | (with_reducible assumption) | assumption); have q213 : x9_1 < (y199.length : Int) := of_decide_eq_true (by first | (with_reducible assumption) | assumption); obtain ⟨ad213, e213, hx213_0⟩ := Kd.at_int (Kd.R_reads' HO_8.out).2.2 x9_1 p213 q213; obtain rfl : ad203 = ad213 := (by injection e213); replace p213 := eq_true p213; replace q213 := eq_true q213) | (go_at_call 22; (with_reducible refine (tilefarmref6_Class.calls k1 (rd y199 x9_1) t214 _ A24.out).mono ?_); rintro e w' ⟨rfl, ⟨nd, rfl⟩⟩; (try first | exact ⟨rfl, _, World.drewN_drewN _ _ _⟩ | exact ⟨rfl, _, Eq.trans (World.drewN_drewN _ _ _) (congrArg (World.drewN _) (Nat.add_assoc _ _ _))⟩))))
                  go_meet
                  case rel => exact ⟨_, ((t212 != t214)), (by first | rfl | (simp; done) | (simp [*]; done)), H', ⟨by have := HK1.out; first | omega | exact Nat.le_refl _⟩, ⟨by (with_reducible repeat (first | apply Kd.R_alloc | apply Kd.R_drewN | apply Kd.R_drew)); exact HO_8.out⟩, ⟨by repeat (first | (with_reducible first | exact HB.out | apply below_alloc | apply pw_below_drewN | apply below_drew1) | exact HB.out)⟩⟩
              · rw [if_neg c21] at H
                have c21b0 : (t205 == t209) = false := beq_eq_false_iff_ne.mpr c21
                have c21b1 : (t205 != t209) = true := bne_iff_ne.mpr c21
                have H' := Aside0.mk H
                clear H
                go_wp2
                repeat (go_quiet (fail); try go_wp2)
                go_meet
                case rel => exact ⟨_, (true), (by first | rfl | (simp; done) | (simp [*]; done)), H', ⟨by have := HK1.out; first | omega | exact Nat.le_refl _⟩, ⟨by (with_reducible repeat (first | apply Kd.R_alloc | apply Kd.R_drewN | apply Kd.R_drew)); exact HO_8.out⟩, ⟨by repeat (first | (with_reducible first | exact HB.out | apply below_alloc | apply pw_below_drewN | apply below_drew1) | exact HB.out)⟩⟩
            · rw [if_neg c20] at H
              have c20b0 : (t204 == t208) = false := beq_eq_false_iff_ne.mpr c20
              have c20b1 : (t204 != t208) = true := bne_iff_ne.mpr c20
              (first | rw [c20b0] | (simp only [i64_w, i32_w]; rw [c20b0]) | skip)
              have H' := Aside0.mk H
              clear H
              go_wp2
              repeat (go_quiet (fail); try go_wp2)
              go_meet
              case rel => exact ⟨_, (true), (by first | rfl | (simp; done) | (simp [*]; done)), H', ⟨by have := HK1.out; first | omega | exact Nat.le_refl _⟩, ⟨by (with_reducible repeat (first | apply Kd.R_alloc | apply Kd.R_drewN | apply Kd.R_drew)); exact HO_8.out⟩, ⟨by repeat (first | (with_reducible first | exact HB.out | apply below_alloc | apply pw_below_drewN | apply below_drew1) | exact HB.out)⟩⟩
          case rest =>
            clear HC18
            try clear c1
            try clear c2
            try clear p2
            try clear q2
            try clear hx2
            try clear c5
            try clear c14
            try clear c14b0
            try clear c15
            try clear c15b0
            try clear c20
            try clear c20b0
            try clear c20b1
            try clear p20
            try clear q20
            try clear hx20
            try clear c21
            try clear c21b0
            try clear c21b1
            try clear p21
            try clear q21
            try clear hx21
            try clear c22
            try clear c22b0
            try clear c22b1
            try clear c22b2
            try clear hx203_0
            try clear hx207_0
            try clear hx211_0
            try clear hx213_0
            try clear p2
            try clear p203
            try clear p207
            try clear p211
            try clear p213
            try clear q203
            try clear q207
            try clear q211
            try clear q213
            obtain ⟨kq, x85_17, rfl, HA, HJ17, HO_8, HB⟩ := hcut
            cases kq with
            | zero => exact absurd HA.out (by simp [tilefarmlaw6_IeeeReads.j1])
            | succ kj17 =>
              have H := HA.out
              clear HA
              simp only [tilefarmlaw6_IeeeReads.j1] at H
              by_cases c25 : x85_17 = true
              · subst c25
                have H1 : (some false) = some r := by rw [if_pos rfl] at H; exact H
                clear H
                have H := H1
                clear H1
                exact absurd ((Option.some.inj H).trans HT.out) (by decide)
              · replace c25 := Bool.eq_false_iff.mpr c25
                subst c25
                have H1 : (tilefarmlaw6_IeeeReads.l1 kj17 y199 x9_1 0) = some r := by rw [if_neg (show ¬ (false = true) by decide)] at H; exact H
                clear H
                have H := H1
                clear H1
                have H' := Aside0.mk H
                clear H
                go_wp2
                repeat (go_quiet (fail); try go_wp2)
                go_loopg [16] kj17 (fun kq v16 w' => ∃ (x16_3 : Int), v16 = .int .i64 x16_3 ∧ Aside0 (tilefarmlaw6_IeeeReads.l1 kq y199 x9_1 x16_3 = some r) ∧ Aside0 (kq ≤ kj17) ∧ Aside0 (Kd.R (Kd.int .u64) 23 w' w.heap.size (fun _ => True) (.slice (some ad203) y199.length co19) y199) ∧ Aside0 (Below w.heap.size w w'))
                case atStart => exact ⟨(0), (by first | rfl | (simp; done) | (simp [*]; done)), H', ⟨Nat.le_refl _⟩, ⟨by (with_reducible repeat (first | apply Kd.R_alloc | apply Kd.R_drewN | apply Kd.R_drew)); exact HO_8.out⟩, ⟨by repeat (first | (with_reducible first | exact HB.out | apply below_alloc | apply pw_below_drewN | apply below_drew1) | exact HB.out)⟩⟩
                case round =>
                  clear H'
                  try clear c1
                  try clear c2
                  try clear p2
                  try clear q2
                  try clear hx2
                  try clear c5
                  try clear c14
                  try clear c14b0
                  try clear c15
                  try clear c15b0
                  try clear c20
                  try clear c20b0
                  try clear c20b1
                  try clear p20
                  try clear q20
                  try clear hx20
                  try clear c21
                  try clear c21b0
                  try clear c21b1
                  try clear p21
                  try clear q21
                  try clear hx21
                  try clear c22
                  try clear c22b0
                  try clear c22b1
                  try clear c22b2
                  try clear c25
                  try clear hx203_0
                  try clear hx207_0
                  try clear hx211_0
                  try clear hx213_0
                  try clear p2
                  try clear p20
                  try clear p203
                  try clear p207
                  try clear p21
                  try clear p211
                  try clear p213
                  try clear q2
                  try clear q20
                  try clear q203
                  try clear q207
                  try clear q21
                  try clear q211
                  try clear q213
                  obtain ⟨x16_3, rfl, HA, HK3, HO_8, HB⟩ := hrel
                  cases gk with
                  | zero => exact absurd HA.out (by simp [tilefarmlaw6_IeeeReads.l1])
                  | succ k3 =>
                    have H := HA.out
                    clear HA
                    simp only [tilefarmlaw6_IeeeReads.l1] at H
                    by_cases c26 : x16_3 < (y199.length : Int)
                    · rw [if_pos c26] at H
                      have c26b0 : decide (x16_3 < (y199.length : Int)) = true := decide_eq_true c26
                      clear c26
                      by_cases c27 : 0 ≤ x9_1
                      · rw [if_pos c27] at H
                        have c27b0 : decide (0 ≤ x9_1) = true := decide_eq_true c27
                        clear c27
                        by_cases c28 : x9_1 < (y199.length : Int)
                        · rw [if_pos c28] at H
                          have c28b0 : decide (x9_1 < (y199.length : Int)) = true := decide_eq_true c28
                          clear c28
                          by_cases c29 : 0 ≤ x16_3
                          · rw [if_pos c29] at H
                            have c29b0 : decide (0 ≤ x16_3) = true := decide_eq_true c29
                            clear c29
                            replace H := Option.bind_eq_some_iff.mp H
                            obtain ⟨⟨t217, t218⟩, A300, H⟩ := H
                            replace H : ((tilefarmref6_Compare.f k3 (rd y199 x9_1) (rd y199 x16_3)).bind fun bt221 => (if t217 = bt221.1 then (if (t218 != bt221.2) = true then (some false) else (tilefarmlaw6_IeeeReads.l1 k3 y199 x9_1 (wrap64 (x16_3 + 1)))) else (some false))) = some r := H
                            have A30 := Aside0.mk A300
                            clear A300
                            replace H := Option.bind_eq_some_iff.mp H
                            obtain ⟨⟨t221, t222⟩, A310, H⟩ := H
                            replace H : (if t217 = t221 then (if (t218 != t222) = true then (some false) else (tilefarmlaw6_IeeeReads.l1 k3 y199 x9_1 (wrap64 (x16_3 + 1)))) else (some false)) = some r := H
                            have A31 := Aside0.mk A310
                            clear A310
                            by_cases c32 : t217 = t221
                            · rw [if_pos c32] at H
                              have c32b0 : (t217 == t221) = true := beq_iff_eq.mpr c32
                              have c32b1 : (t217 != t221) = false := bne_eq_false_iff_eq.mpr c32
                              clear c32
                              by_cases c33 : (t218 != t222) = true
                              · rw [if_pos c33] at H
                                have c33b0 : (t218 != t222) = true := c33
                                (try (have c33b1 : decide (t218 = t222) = false := by simpa using c33))
                                (try (have c33b2 : (t218 == t222) = false := by simpa using c33))
                                (try (have c33b3 : ¬ (t218 = t222) := by simpa using c33))
                                clear c33
                                exact absurd ((Option.some.inj H).trans HT.out) (by decide)
                              · rw [if_neg c33] at H
                                have c33b0 : (t218 != t222) = false := by simpa using c33
                                (try (have c33b1 : decide (t218 = t222) = true := by simpa using c33))
                                (try (have c33b2 : (t218 == t222) = true := by simpa using c33))
                                clear c33
                                have H' := Aside0.mk H
                                clear H
                                have p215 : 0 ≤ (x9_1 : Int) := of_decide_eq_true (by first | (with_reducible assumption) | assumption)
                                have q215 : x9_1 < (y199.length : Int) := of_decide_eq_true (by first | (with_reducible assumption) | assumption)
                                obtain ⟨ad215, e215, hx215_0⟩ := Kd.at_int (Kd.R_reads' HO_8.out).2.2 x9_1 p215 q215
                                obtain rfl : ad203 = ad215 := (by injection e215)
                                replace p215 := eq_true p215
                                replace q215 := eq_true q215
                                have p216 : 0 ≤ (x16_3 : Int) := of_decide_eq_true (by first | (with_reducible assumption) | assumption)
                                have q216 : x16_3 < (y199.length : Int) := of_decide_eq_true (by first | (with_reducible assumption) | assumption)
                                obtain ⟨ad216, e216, hx216_0⟩ := Kd.at_int (Kd.R_reads' HO_8.out).2.2 x16_3 p216 q216
                                obtain rfl : ad203 = ad216 := (by injection e216)
                                replace p216 := eq_true p216
                                replace q216 := eq_true q216
                                go_wp2_with (first | (go_at_call 23; (with_reducible refine (ieee_Compare.calls k3 (rd y199 x9_1) (rd y199 x16_3) t217 t218 _ A30.out).mono ?_); rintro e w' ⟨rfl, ⟨nd, rfl⟩⟩; (try first | exact ⟨rfl, _, World.drewN_drewN _ _ _⟩ | exact ⟨rfl, _, Eq.trans (World.drewN_drewN _ _ _) (congrArg (World.drewN _) (Nat.add_assoc _ _ _))⟩); have p219 : 0 ≤ (x9_1 : Int) := of_decide_eq_true (by first | (with_reducible assumption) | assumption); have q219 : x9_1 < (y199.length : Int) := of_decide_eq_true (by first | (with_reducible assumption) | assumption); obtain ⟨ad219, e219, hx219_0⟩ := Kd.at_int (Kd.R_reads' HO_8.out).2.2 x9_1 p219 q219; obtain rfl : ad203 = ad219 := (by injection e219); replace p219 := eq_true p219; replace q219 := eq_true q219; have p220 : 0 ≤ (x16_3 : Int) := of_decide_eq_true (by first | (with_reducible assumption) | assumption); have q220 : x16_3 < (y199.length : Int) := of_decide_eq_true (by first | (with_reducible assumption) | assumption); obtain ⟨ad220, e220, hx220_0⟩ := Kd.at_int (Kd.R_reads' HO_8.out).2.2 x16_3 p220 q220; obtain rfl : ad203 = ad220 := (by injection e220); replace p220 := eq_true p220; replace q220 := eq_true q220) | (go_at_call 24; (with_reducible refine (tilefarmref6_Compare.calls k3 (rd y199 x9_1) (rd y199 x16_3) t221 t222 _ A31.out).mono ?_); rintro e w' ⟨rfl, ⟨nd, rfl⟩⟩; (try first | exact ⟨rfl, _, World.drewN_drewN _ _ _⟩ | exact ⟨rfl, _, Eq.trans (World.drewN_drewN _ _ _) (congrArg (World.drewN _) (Nat.add_assoc _ _ _))⟩)))
                                repeat (go_quiet (first | (go_at_call 23; (with_reducible refine (ieee_Compare.calls k3 (rd y199 x9_1) (rd y199 x16_3) t217 t218 _ A30.out).mono ?_); rintro e w' ⟨rfl, ⟨nd, rfl⟩⟩; (try first | exact ⟨rfl, _, World.drewN_drewN _ _ _⟩ | exact ⟨rfl, _, Eq.trans (World.drewN_drewN _ _ _) (congrArg (World.drewN _) (Nat.add_assoc _ _ _))⟩); have p219 : 0 ≤ (x9_1 : Int) := of_decide_eq_true (by first | (with_reducible assumption) | assumption); have q219 : x9_1 < (y199.length : Int) := of_decide_eq_true (by first | (with_reducible assumption) | assumption); obtain ⟨ad219, e219, hx219_0⟩ := Kd.at_int (Kd.R_reads' HO_8.out).2.2 x9_1 p219 q219; obtain rfl : ad203 = ad219 := (by injection e219); replace p219 := eq_true p219; replace q219 := eq_true q219; have p220 : 0 ≤ (x16_3 : Int) := of_decide_eq_true (by first | (with_reducible assumption) | assumption); have q220 : x16_3 < (y199.length : Int) := of_decide_eq_true (by first | (with_reducible assumption) | assumption); obtain ⟨ad220, e220, hx220_0⟩ := Kd.at_int (Kd.R_reads' HO_8.out).2.2 x16_3 p220 q220; obtain rfl : ad203 = ad220 := (by injection e220); replace p220 := eq_true p220; replace q220 := eq_true q220) | (go_at_call 24; (with_reducible refine (tilefarmref6_Compare.calls k3 (rd y199 x9_1) (rd y199 x16_3) t221 t222 _ A31.out).mono ?_); rintro e w' ⟨rfl, ⟨nd, rfl⟩⟩; (try first | exact ⟨rfl, _, World.drewN_drewN _ _ _⟩ | exact ⟨rfl, _, Eq.trans (World.drewN_drewN _ _ _) (congrArg (World.drewN _) (Nat.add_assoc _ _ _))⟩))); try go_wp2_with (first | (go_at_call 23; (with_reducible refine (ieee_Compare.calls k3 (rd y199 x9_1) (rd y199 x16_3) t217 t218 _ A30.out).mono ?_); rintro e w' ⟨rfl, ⟨nd, rfl⟩⟩; (try first | exact ⟨rfl, _, World.drewN_drewN _ _ _⟩ | exact ⟨rfl, _, Eq.trans (World.drewN_drewN _ _ _) (congrArg (World.drewN _) (Nat.add_assoc _ _ _))⟩); have p219 : 0 ≤ (x9_1 : Int) := of_decide_eq_true (by first | (with_reducible assumption) | assumption); have q219 : x9_1 < (y199.length : Int) := of_decide_eq_true (by first | (with_reducible assumption) | assumption); obtain ⟨ad219, e219, hx219_0⟩ := Kd.at_int (Kd.R_reads' HO_8.out).2.2 x9_1 p219 q219; obtain rfl : ad203 = ad219 := (by injection e219); replace p219 := eq_true p219; replace q219 := eq_true q219; have p220 : 0 ≤ (x16_3 : Int) := of_decide_eq_true (by first | (with_reducible assumption) | assumption); have q220 : x16_3 < (y199.length : Int) := of_decide_eq_true (by first | (with_reducible assumption) | assumption); obtain ⟨ad220, e220, hx220_0⟩ := Kd.at_int (Kd.R_reads' HO_8.out).2.2 x16_3 p220 q220; obtain rfl : ad203 = ad220 := (by injection e220); replace p220 := eq_true p220; replace q220 := eq_true q220) | (go_at_call 24; (with_reducible refine (tilefarmref6_Compare.calls k3 (rd y199 x9_1) (rd y199 x16_3) t221 t222 _ A31.out).mono ?_); rintro e w' ⟨rfl, ⟨nd, rfl⟩⟩; (try first | exact ⟨rfl, _, World.drewN_drewN _ _ _⟩ | exact ⟨rfl, _, Eq.trans (World.drewN_drewN _ _ _) (congrArg (World.drewN _) (Nat.add_assoc _ _ _))⟩))))
                                go_roundg k3
                                case measure => have := HK1.out; have := HJ17.out; have := HK3.out; omega
                                case rel => exact ⟨(wrap64 (x16_3 + 1)), (by first | rfl | (simp; done) | (simp [*]; done)), H', ⟨by have := HK1.out; have := HJ17.out; have := HK3.out; omega⟩, ⟨by (with_reducible repeat (first | apply Kd.R_alloc | apply Kd.R_drewN | apply Kd.R_drew)); exact HO_8.out⟩, ⟨by repeat (first | (with_reducible first | exact HB.out | apply below_alloc | apply pw_below_drewN | apply below_drew1) | exact HB.out)⟩⟩
                            · rw [if_neg c32] at H
                              have c32b0 : (t217 == t221) = false := beq_eq_false_iff_ne.mpr c32
                              have c32b1 : (t217 != t221) = true := bne_iff_ne.mpr c32
                              exact absurd ((Option.some.inj H).trans HT.out) (by decide)
                          · rw [if_neg c29] at H
                            exact absurd H (by simp)
                        · rw [if_neg c28] at H
                          exact absurd H (by simp)
                      · rw [if_neg c27] at H
                        exact absurd H (by simp)
                    · rw [if_neg c26] at H
                      have c26b0 : decide (x16_3 < (y199.length : Int)) = false := decide_eq_false c26
                      clear c26
                      have H' := Aside0.mk H
                      clear H
                      go_wp2
                      repeat (go_quiet (fail); try go_wp2)
                      go_roundg k3
                      case measure => have := HK1.out; have := HJ17.out; have := HK3.out; omega
                      case rel => exact ⟨(wrap64 (x9_1 + 1)), (by first | rfl | (simp; done) | (simp [*]; done)), H', ⟨by have := HK1.out; have := HJ17.out; have := HK3.out; omega⟩, ⟨by (with_reducible repeat (first | apply Kd.R_alloc | apply Kd.R_drewN | apply Kd.R_drew)); exact HO_8.out⟩, ⟨by repeat (first | (with_reducible first | exact HB.out | apply below_alloc | apply pw_below_drewN | apply below_drew1) | exact HB.out)⟩⟩
        · rw [if_neg c15] at H
          exact absurd H (by simp)
      · rw [if_neg c14] at H
        have c14b0 : decide (x9_1 < (y199.length : Int)) = false := decide_eq_false c14
        clear c14
        replace H := Option.bind_eq_some_iff.mp H
        obtain ⟨t202, A340, H⟩ := H
        replace H : (some t202) = some r := H
        have A34 := Aside0.mk A340
        clear A340
        obtain rfl := Option.some.inj H
        obtain ⟨Ao35, co35, eo35⟩ := Kd.R_slice HO_8.out
        subst eo35
        go_wp2_with (first | (go_at_call 14; (with_reducible refine (tilefarmlaw6_sane.calls k1  t202 _ A34.out).mono ?_); rintro e w36 ⟨rfl, hb⟩; have n0_ := Aside0.mk (Kd.R_below (by (with_reducible repeat (first | apply Kd.R_alloc | apply Kd.R_drewN | apply Kd.R_drew)); exact HO_8.out) hb); have n1_ := Aside0.mk (below_step (by repeat (first | (with_reducible first | exact HB.out | apply below_alloc | apply pw_below_drewN | apply below_drew1) | exact HB.out)) hb); clear HO_8; clear HB; have HO_8 := n0_; have HB := n1_; clear n0_ n1_; (try clear hb); (try clear hb2); (try clear hk); (try clear hi)))
        repeat (go_quiet (first | (go_at_call 14; (with_reducible refine (tilefarmlaw6_sane.calls k1  t202 _ A34.out).mono ?_); rintro e w36 ⟨rfl, hb⟩; have n0_ := Aside0.mk (Kd.R_below (by (with_reducible repeat (first | apply Kd.R_alloc | apply Kd.R_drewN | apply Kd.R_drew)); exact HO_8.out) hb); have n1_ := Aside0.mk (below_step (by repeat (first | (with_reducible first | exact HB.out | apply below_alloc | apply pw_below_drewN | apply below_drew1) | exact HB.out)) hb); clear HO_8; clear HB; have HO_8 := n0_; have HB := n1_; clear n0_ n1_; (try clear hb); (try clear hb2); (try clear hk); (try clear hi))); try go_wp2_with (first | (go_at_call 14; (with_reducible refine (tilefarmlaw6_sane.calls k1  t202 _ A34.out).mono ?_); rintro e w36 ⟨rfl, hb⟩; have n0_ := Aside0.mk (Kd.R_below (by (with_reducible repeat (first | apply Kd.R_alloc | apply Kd.R_drewN | apply Kd.R_drew)); exact HO_8.out) hb); have n1_ := Aside0.mk (below_step (by repeat (first | (with_reducible first | exact HB.out | apply below_alloc | apply pw_below_drewN | apply below_drew1) | exact HB.out)) hb); clear HO_8; clear HB; have HO_8 := n0_; have HB := n1_; clear n0_ n1_; (try clear hb); (try clear hb2); (try clear hk); (try clear hi))))
        go_ret
        exact ⟨by first | rfl | (simp [errW_none, errW_some] <;> rfl) | (simp [*, errW_none, errW_some] <;> rfl), by repeat (first | (with_reducible first | exact HB.out | apply below_alloc | apply pw_below_drewN | apply below_drew1) | exact HB.out)⟩

/-- THE ONE PURE STATEMENT of tilefarmlaw6_IeeeReads: yours. -/
def tilefarmlaw6_IeeeReads.Pure : Prop := ∀ (l0 : List Int) (a1 : Int) (a2 : Int), l0.length ≤ maxLen → l0.length * 8 ≤ 140737488351232 → (∀ x ∈ l0, (Lit.int .i64 x).wf = true) → (Lit.int .u64 a1).wf = true → (Lit.int .u64 a2).wf = true → ∃ k, tilefarmlaw6_IeeeReads.f k l0 a1 a2 = some true
theorem tilefarmlaw6_IeeeReads.walk (P : tilefarmlaw6_IeeeReads.Pure) (a0 : Option Addr) (len0 cap0 : Nat) (z0 : List Int) (a1 : Int) (a2 : Int) (w : World) (w0 : (a0 = none ∧ len0 = 0 ∧ cap0 = 0 ∧ z0 = []) ∨ ∃ x, a0 = some x ∧ len0 ≤ cap0 ∧ cap0 ≤ maxLen ∧ z0.length = cap0 ∧ (∀ i, i < z0.length → w.cell? (x.add i) = some (.int .i64 (z0.getD i 0))) ∧ ∀ n ∈ z0, (Lit.int .i64 n).wf = true) (y0 : len0 * 8 ≤ 140737488351232) (w1 : (Lit.int .u64 a1).wf = true) (w2 : (Lit.int .u64 a2).wf = true) :
    Calls Try.prog 5 #[.slice a0 len0 cap0, .int .u64 a1, .int .u64 a2] w fun e w' => e = .returned (.bool true) ∧ Below w.heap.size w w' := by
  obtain ⟨l0, rfl, hr0, hm0, hw0, hc0⟩ := ReadsInt.ofRowC w0
  obtain ⟨k, h⟩ := P l0 a1 a2 hm0 y0 hw0 w1 w2
  refine (tilefarmlaw6_IeeeReads.calls k _ _ l0 a1 a2 true w (Kd.C_of_reads (d := (0 : Int)) (h1 := fun _ => rfl) hr0) hc0 h).mono ?_
  rintro e w' ⟨rfl, hd⟩
  exact ⟨rfl, hd⟩

end Go.Proofs.Ytoamkepelnphaaa.PIeeeReads
