-- Written by a program of the session (wip/tools/pack.py): the printed texts, pruned; checked by Lean.
import Derived.Test.YtgkccacenlcebaaKPlaneCropsa
import Derived.Test.YtgkccacenlcebaaKPlaneCropsx0
import Derived.Test.YtgkccacenlcebaaKPlaneCropsx4
namespace Go.Proofs.Ytgkccacenlcebaa.PPlaneCrops
open Go.RowKit Go.Proofs.YtgkccacenlcebaaW.PrintWords Go.Proofs.YtgkccacenlcebaaW.PrintLast Go.Proofs.YtgkccacenlcebaaW.PrintMore
attribute [local go_sem] max2_int min2_int max_two min_two max_three min_three max_four min_four   -- for this text's walks alone
set_option linter.unusedVariables false
set_option linter.unusedSimpArgs false
def slices_Equal_int_int.l0 : Nat → List Int → List Int → Int → Int → Option (Bool)
 | 0, _, _, _, _ => none
 | k + 1, x0, x1, x12, x13 => if x13 < x12 then (if 0 ≤ x13 then (if x13 < (x0.length : Int) then (if x13 < (x1.length : Int) then (if (rd x0 x13) = (rd x1 x13) then (slices_Equal_int_int.l0 k x0 x1 x12 (wrap64 (x13 + 1))) else (some false)) else (none)) else (none)) else (none)) else (some true)
def slices_Equal_int_int.f (k : Nat) (l0 : List Int) (l1 : List Int) : Option (Bool) := if (l0.length : Int) = (l1.length : Int) then (slices_Equal_int_int.l0 k l0 l1 (l0.length : Int) 0) else (some false)
theorem slices_Equal_int_int.mono_l : ∀ k, (∀ y0 y1 y2 y3, LeO (slices_Equal_int_int.l0 k y0 y1 y2 y3) (slices_Equal_int_int.l0 (k + 1) y0 y1 y2 y3))
 | 0 => fun _ _ _ _ r h => by simp [slices_Equal_int_int.l0] at h
 | k + 1 => by
  have ih0 := slices_Equal_int_int.mono_l k
  ·intro y0 y1 y2 y3
   unfold slices_Equal_int_int.l0
   repeat' first
   | (with_reducible exact ih0 _ _ _ _)
   | (with_reducible exact LeO.refl _)
   | (with_reducible exact LeO.none _)
   | (with_reducible refine LeO.ite ?_ ?_)
   | (with_reducible refine LeO.bind ?_ (fun _ => ?_))
   | exact ih0 _ _ _ _
   | exact LeO.none _
   | refine LeO.ite ?_ ?_
   | refine LeO.bind ?_ (fun _ => ?_)
theorem slices_Equal_int_int.mono : ∀ a0 a1 k, LeO (slices_Equal_int_int.f k a0 a1) (slices_Equal_int_int.f (k + 1) a0 a1) := by
 intro a0 a1 k; have ih0 := slices_Equal_int_int.mono_l k; unfold slices_Equal_int_int.f
 repeat' first
   | (with_reducible exact ih0 _ _ _ _)
   | (with_reducible exact LeO.refl _)
   | (with_reducible exact LeO.none _)
   | (with_reducible refine LeO.ite ?_ ?_)
   | (with_reducible refine LeO.bind ?_ (fun _ => ?_))
   | exact ih0 _ _ _ _
   | exact LeO.none _
   | refine LeO.ite ?_ ?_
   | refine LeO.bind ?_ (fun _ => ?_)
set_option maxHeartbeats 8000000 in
set_option maxRecDepth 100000 in
theorem slices_Equal_int_int.calls (k : Nat) (A0 : Option Addr) (c0 : Nat) (l0 : List Int) (A1 : Option Addr) (c1 : Nat) (l1 : List Int) (r : Bool) (w : World) (hr0 : Kd.C (Kd.int .i64) w A0 l0.length l0) (hc0 : l0.length ≤ c0) (hr1 : Kd.C (Kd.int .i64) w A1 l1.length l1) (hc1 : l1.length ≤ c1) (h : slices_Equal_int_int.f k l0 l1 = some r) :
  Calls Try.prog 38 #[.slice A0 l0.length c0, .slice A1 l1.length c1] w fun e w' => e = .returned (.bool r) ∧ Drawn0 w w' := by
 have HR0 := am_ hr0; have HC0 := am_ hc0; clear hr0 hc0; have HR1 := am_ hr1; have HC1 := am_ hc1; clear hr1 hc1; have H : (if (l0.length : Int) = (l1.length : Int) then (slices_Equal_int_int.l0 k l0 l1 (l0.length : Int) 0) else (some false)) = some r := h; clear h
 by_cases c3 : (l0.length : Int) = (l1.length : Int)
 ·rw [if_pos c3] at H
  have c3b0 : ((l0.length : Int) == (l1.length : Int)) = true := beq_iff_eq.mpr c3; have c3b1 : ((l0.length : Int) != (l1.length : Int)) = false := bne_eq_false_iff_eq.mpr c3; have c3b2 : (l0.length == l1.length) = true := by first | simpa using c3 | (simp at c3 ⊢; omega)
  clear c3; have H' := am_ H; clear H
  go_enter Try.func38, Try.ntmps38
  go_wp2
  repeat (go_quiet (fail); try go_wp2)
  go_loopg [13] k (fun kq v13 w' => ∃ (x13_1 : Int), v13 = .int .i64 x13_1 ∧ Aside0 (slices_Equal_int_int.l0 kq l0 l1 (l0.length : Int) x13_1 = some r) ∧ Aside0 (kq ≤ k) ∧ Drawn0 w w')
  case atStart => exact ⟨(0), q227_, H', ⟨Nat.le_refl _⟩, q225_⟩
  case round =>
   clear H'; (try clear c1); (try clear p2); (try clear c3); (try clear c3b0); (try clear c3b1); (try clear c3b2); obtain ⟨x13_1, rfl, HA, HK1, ⟨m1, rfl⟩⟩ := hrel; cases gk with
   | zero => exact absurd HA.out (by simp [slices_Equal_int_int.l0])
   | succ k1 =>
    have H := HA.out; clear HA; simp only [slices_Equal_int_int.l0] at H
    by_cases c4 : x13_1 < (l0.length : Int)
    ·rw [if_pos c4] at H
     have c4b0 : decide (x13_1 < (l0.length : Int)) = true := decide_eq_true c4; clear c4
     by_cases c5 : 0 ≤ x13_1
     ·rw [if_pos c5] at H
      have c5b0 : decide (0 ≤ x13_1) = true := decide_eq_true c5; clear c5
      by_cases c6 : x13_1 < (l0.length : Int)
      ·rw [if_pos c6] at H
       have c6b0 : decide (x13_1 < (l0.length : Int)) = true := decide_eq_true c6; clear c6
       by_cases c7 : x13_1 < (l1.length : Int)
       ·rw [if_pos c7] at H
        have c7b0 : decide (x13_1 < (l1.length : Int)) = true := decide_eq_true c7; clear c7
        by_cases c8 : (rd l0 x13_1) = (rd l1 x13_1)
        ·rw [if_pos c8] at H
         have c8b0 : ((rd l0 x13_1) == (rd l1 x13_1)) = true := beq_iff_eq.mpr c8; have c8b1 : ((rd l0 x13_1) != (rd l1 x13_1)) = false := bne_eq_false_iff_eq.mpr c8; clear c8; have H' := am_ H; clear H; have p187 : 0 ≤ (x13_1 : Int) := of_decide_eq_true q226_; have q187 : x13_1 < (l0.length : Int) := of_decide_eq_true q226_; obtain ⟨ad187, e187, hx187_0⟩ := Kd.at_int HR0.out x13_1 p187 q187; cases e187; replace p187 := eq_true p187; replace q187 := eq_true q187; have p188 : 0 ≤ (x13_1 : Int) := of_decide_eq_true q226_; have q188 : x13_1 < (l1.length : Int) := of_decide_eq_true q226_; obtain ⟨ad188, e188, hx188_0⟩ := Kd.at_int HR1.out x13_1 p188 q188; cases e188; replace p188 := eq_true p188; replace q188 := eq_true q188
         go_wp2
         repeat (go_quiet (fail); try go_wp2)
         go_roundg k1
         case measure => have := HK1.out; omega
         case rel => exact ⟨(wrap64 (x13_1 + 1)), q227_, H', ⟨by have := HK1.out; omega⟩, q225_⟩
        ·rw [if_neg c8] at H
         have c8b0 : ((rd l0 x13_1) == (rd l1 x13_1)) = false := beq_eq_false_iff_ne.mpr c8; have c8b1 : ((rd l0 x13_1) != (rd l1 x13_1)) = true := bne_iff_ne.mpr c8; obtain rfl := Option.some.inj H; have p187 : 0 ≤ (x13_1 : Int) := of_decide_eq_true q226_; have q187 : x13_1 < (l0.length : Int) := of_decide_eq_true q226_; obtain ⟨ad187, e187, hx187_0⟩ := Kd.at_int HR0.out x13_1 p187 q187; cases e187; replace p187 := eq_true p187; replace q187 := eq_true q187; have p188 : 0 ≤ (x13_1 : Int) := of_decide_eq_true q226_; have q188 : x13_1 < (l1.length : Int) := of_decide_eq_true q226_; obtain ⟨ad188, e188, hx188_0⟩ := Kd.at_int HR1.out x13_1 p188 q188; cases e188; replace p188 := eq_true p188; replace q188 := eq_true q188
         go_wp2
         repeat (go_quiet (fail); try go_wp2)
         go_ret
         exact ⟨q227_, q225_⟩
       ·rw [if_neg c7] at H
        exact absurd H (by simp)
      ·rw [if_neg c6] at H
       exact absurd H (by simp)
     ·rw [if_neg c5] at H
      exact absurd H (by simp)
    ·rw [if_neg c4] at H
     have c4b0 : decide (x13_1 < (l0.length : Int)) = false := decide_eq_false c4; clear c4; obtain rfl := Option.some.inj H
     go_wp2
     repeat (go_quiet (fail); try go_wp2)
     go_ret
     exact ⟨q227_, q225_⟩
 ·rw [if_neg c3] at H
  have c3b0 : ((l0.length : Int) == (l1.length : Int)) = false := beq_eq_false_iff_ne.mpr c3; have c3b1 : ((l0.length : Int) != (l1.length : Int)) = true := bne_iff_ne.mpr c3; have c3b2 : (l0.length == l1.length) = false := by first | simpa using c3 | (simp at c3 ⊢; omega)
  obtain rfl := Option.some.inj H
  go_enter Try.func38, Try.ntmps38
  go_wp2
  repeat (go_quiet (fail); try go_wp2)
  go_ret
  exact ⟨q227_, q225_⟩


def plane_Equal.f (k : Nat) (a0_0 : Int) (a0_1 : Int) (a0_2 : Int) (l0_3 : List Int) (a1_0 : Int) (a1_1 : Int) (a1_2 : Int) (l1_3 : List Int) : Option (Bool) := if a0_0 = a1_0 then (if a0_1 = a1_1 then (if a0_2 = a1_2 then ((slices_Equal_int_int.f k l0_3 l1_3).bind fun t191 => (some t191)) else (some false)) else (some false)) else (some false)
theorem plane_Equal.mono : ∀ a0 a1 a2 a3 a4 a5 a6 a7 k, LeO (plane_Equal.f k a0 a1 a2 a3 a4 a5 a6 a7) (plane_Equal.f (k + 1) a0 a1 a2 a3 a4 a5 a6 a7) := by
 intro a0 a1 a2 a3 a4 a5 a6 a7 k; unfold plane_Equal.f
 repeat' first
   | (with_reducible exact slices_Equal_int_int.mono _ _ _)
   | (with_reducible exact LeO.refl _)
   | (with_reducible exact LeO.none _)
   | (with_reducible refine LeO.ite ?_ ?_)
   | (with_reducible refine LeO.bind ?_ (fun _ => ?_))
   | exact slices_Equal_int_int.mono _ _ _
   | exact LeO.none _
   | refine LeO.ite ?_ ?_
   | refine LeO.bind ?_ (fun _ => ?_)
set_option maxHeartbeats 8000000 in
set_option maxRecDepth 100000 in
theorem plane_Equal.calls (k : Nat) (a0_0 : Int) (a0_1 : Int) (a0_2 : Int) (A0_3 : Option Addr) (c0_3 : Nat) (l0_3 : List Int) (a1_0 : Int) (a1_1 : Int) (a1_2 : Int) (A1_3 : Option Addr) (c1_3 : Nat) (l1_3 : List Int) (r : Bool) (w : World) (hr0_3 : Kd.C (Kd.int .i64) w A0_3 l0_3.length l0_3) (hc0_3 : l0_3.length ≤ c0_3) (hr1_3 : Kd.C (Kd.int .i64) w A1_3 l1_3.length l1_3) (hc1_3 : l1_3.length ≤ c1_3) (h : plane_Equal.f k a0_0 a0_1 a0_2 l0_3 a1_0 a1_1 a1_2 l1_3 = some r) :
  Calls Try.prog 15 #[.agg #[.int .i64 a0_0, .int .i64 a0_1, .int .i64 a0_2, .slice A0_3 l0_3.length c0_3], .agg #[.int .i64 a1_0, .int .i64 a1_1, .int .i64 a1_2, .slice A1_3 l1_3.length c1_3]] w fun e w' => e = .returned (.bool r) ∧ Below w.heap.size w w' := by
 have hu26 := Try.underlying26; have HR0_3 := am_ hr0_3; have HC0_3 := am_ hc0_3; clear hr0_3 hc0_3; have HR1_3 := am_ hr1_3; have HC1_3 := am_ hc1_3; clear hr1_3 hc1_3; have HB := am_ (Below.refl w.heap.size w); have H : (if a0_0 = a1_0 then (if a0_1 = a1_1 then (if a0_2 = a1_2 then ((slices_Equal_int_int.f k l0_3 l1_3).bind fun t191 => (some t191)) else (some false)) else (some false)) else (some false)) = some r := h; clear h
 by_cases c3 : a0_0 = a1_0
 ·rw [if_pos c3] at H
  have c3b0 : (a0_0 == a1_0) = true := beq_iff_eq.mpr c3; have c3b1 : (a0_0 != a1_0) = false := bne_eq_false_iff_eq.mpr c3; clear c3
  by_cases c4 : a0_1 = a1_1
  ·rw [if_pos c4] at H
   have c4b0 : (a0_1 == a1_1) = true := beq_iff_eq.mpr c4; have c4b1 : (a0_1 != a1_1) = false := bne_eq_false_iff_eq.mpr c4; clear c4
   by_cases c5 : a0_2 = a1_2
   ·rw [if_pos c5] at H
    have c5b0 : (a0_2 == a1_2) = true := beq_iff_eq.mpr c5; have c5b1 : (a0_2 != a1_2) = false := bne_eq_false_iff_eq.mpr c5; clear c5; replace H := Option.bind_eq_some_iff.mp H; obtain ⟨t191, A60, H⟩ := H; replace H : (some t191) = some r := H; have A6 := am_ A60; clear A60; obtain rfl := Option.some.inj H
    go_enter Try.func15, Try.ntmps15
    go_wp2_with (first | ((with_reducible refine gate_dst (N := 2) rfl ?_); refine box_event ?hg (N := 2) ?hd (cs := #[.int .i64 a0_0, .int .i64 a0_1, .int .i64 a0_2, .slice A0_3 l0_3.length c0_3]) (t := 26) ?hr ?_; (case hd => rfl); (case hg => rfl); (case hr => first | (go_simp; done) | (go_simp; rfl)); intro gb189 hg w7 hbox hb; have n0_ := am_ (below_step q153_ hb); have n1_ := am_ (hbox); have n2_ := am_ ((q123_ : w.heap.size ≤ gb189)); have n3_ := am_ ((q123_ : w.heap.size ≤ gb189)); clear HB; have HB := n0_; have BK189 := n1_; have GW189 := n2_; have GE189 := n3_; clear n0_ n1_ n2_ n3_; clear hb hbox hg) | ((with_reducible refine gate_dst (N := 3) rfl ?_); refine box_event ?hg (N := 3) ?hd (cs := #[.int .i64 a1_0, .int .i64 a1_1, .int .i64 a1_2, .slice A1_3 l1_3.length c1_3]) (t := 26) ?hr ?_; (case hd => rfl); (case hg => rfl); (case hr => first | (go_simp; done) | (go_simp; rfl)); intro gb190 hg w8 hbox hb; have n0_ := am_ (blk_below (g := gb189) (o := .cells #[.int .i64 a0_0, .int .i64 a0_1, .int .i64 a0_2, .slice A0_3 l0_3.length c0_3] 26 (0, 0)) q170_ hb); have n1_ := am_ (below_step q131_ hb); have n2_ := am_ (hbox); have n3_ := am_ ((q93_ : w.heap.size ≤ gb190)); have n4_ := am_ ((q93_ : w.heap.size ≤ gb190)); have n5_ := am_ ((q19_ : gb189 ≠ gb190)); have n6_ := am_ ((q20_ : gb190 ≠ gb189)); clear BK189 HB; have BK189 := n0_; have HB := n1_; have BK190 := n2_; have GW190 := n3_; have GE190 := n4_; have NB189_190 := n5_; have NB190_189 := n6_; clear n0_ n1_ n2_ n3_ n4_ n5_ n6_; clear hb hbox hg; have hnb9 := NB189_190.out; have hnc9 := NB190_189.out; have hcz10_0 := bc0_ BK189.out; have hcz10_1 := bc1_ BK189.out; have hcz10_2 := bc2_ BK189.out; have hcz10_3 := bc3_ BK189.out; have hfz10_0 := blk_frozen BK189.out 0; have hfz10_1 := blk_frozen BK189.out 1; have hfz10_2 := blk_frozen BK189.out 2; have hfz10_3 := blk_frozen BK189.out 3; have hcz11_0 := bc0_ BK190.out; have hcz11_1 := bc1_ BK190.out; have hcz11_2 := bc2_ BK190.out; have hcz11_3 := bc3_ BK190.out; have hfz11_0 := blk_frozen BK190.out 0; have hfz11_1 := blk_frozen BK190.out 1; have hfz11_2 := blk_frozen BK190.out 2; have hfz11_3 := blk_frozen BK190.out 3) | (go_at_call 38; (with_reducible refine (slices_Equal_int_int.calls k _ _ l0_3 _ _ l1_3 t191 _ ?side1 ?side2 ?side3 ?side4 A6.out).mono ?_); (case side1 => repeat (first | exact (Kd.C_below HR0_3.out HB.out) | (with_reducible refine Kd.C_alloc ?_ _) | (with_reducible refine Kd.C_drewN ?_ _) | (with_reducible refine Kd.C_drew ?_))); (case side2 => exact HC0_3.out); (case side3 => repeat (first | exact (Kd.C_below HR1_3.out HB.out) | (with_reducible refine Kd.C_alloc ?_ _) | (with_reducible refine Kd.C_drewN ?_ _) | (with_reducible refine Kd.C_drew ?_))); (case side4 => exact HC1_3.out); rintro e w' ⟨rfl, ⟨nd, rfl⟩⟩))
    go_ret
    exact ⟨q224_, q102_⟩
   ·rw [if_neg c5] at H
    have c5b0 : (a0_2 == a1_2) = false := beq_eq_false_iff_ne.mpr c5; have c5b1 : (a0_2 != a1_2) = true := bne_iff_ne.mpr c5; obtain rfl := Option.some.inj H
    go_enter Try.func15, Try.ntmps15
    go_wp2_with (first | ((with_reducible refine gate_dst (N := 2) rfl ?_); refine box_event ?hg (N := 2) ?hd (cs := #[.int .i64 a0_0, .int .i64 a0_1, .int .i64 a0_2, .slice A0_3 l0_3.length c0_3]) (t := 26) ?hr ?_; (case hd => rfl); (case hg => rfl); (case hr => first | (go_simp; done) | (go_simp; rfl)); intro gb189 hg w12 hbox hb; have n0_ := am_ (below_step q153_ hb); have n1_ := am_ (hbox); have n2_ := am_ ((q123_ : w.heap.size ≤ gb189)); have n3_ := am_ ((q123_ : w.heap.size ≤ gb189)); clear HB; have HB := n0_; have BK189 := n1_; have GW189 := n2_; have GE189 := n3_; clear n0_ n1_ n2_ n3_; clear hb hbox hg) | ((with_reducible refine gate_dst (N := 3) rfl ?_); refine box_event ?hg (N := 3) ?hd (cs := #[.int .i64 a1_0, .int .i64 a1_1, .int .i64 a1_2, .slice A1_3 l1_3.length c1_3]) (t := 26) ?hr ?_; (case hd => rfl); (case hg => rfl); (case hr => first | (go_simp; done) | (go_simp; rfl)); intro gb190 hg w13 hbox hb; have n0_ := am_ (blk_below (g := gb189) (o := .cells #[.int .i64 a0_0, .int .i64 a0_1, .int .i64 a0_2, .slice A0_3 l0_3.length c0_3] 26 (0, 0)) q170_ hb); have n1_ := am_ (below_step q131_ hb); have n2_ := am_ (hbox); have n3_ := am_ ((q93_ : w.heap.size ≤ gb190)); have n4_ := am_ ((q93_ : w.heap.size ≤ gb190)); have n5_ := am_ ((q19_ : gb189 ≠ gb190)); have n6_ := am_ ((q20_ : gb190 ≠ gb189)); clear BK189 HB; have BK189 := n0_; have HB := n1_; have BK190 := n2_; have GW190 := n3_; have GE190 := n4_; have NB189_190 := n5_; have NB190_189 := n6_; clear n0_ n1_ n2_ n3_ n4_ n5_ n6_; clear hb hbox hg; have hnb14 := NB189_190.out; have hnc14 := NB190_189.out; have hcz15_0 := bc0_ BK189.out; have hcz15_1 := bc1_ BK189.out; have hcz15_2 := bc2_ BK189.out; have hcz15_3 := bc3_ BK189.out; have hfz15_0 := blk_frozen BK189.out 0; have hfz15_1 := blk_frozen BK189.out 1; have hfz15_2 := blk_frozen BK189.out 2; have hfz15_3 := blk_frozen BK189.out 3; have hcz16_0 := bc0_ BK190.out; have hcz16_1 := bc1_ BK190.out; have hcz16_2 := bc2_ BK190.out; have hcz16_3 := bc3_ BK190.out; have hfz16_0 := blk_frozen BK190.out 0; have hfz16_1 := blk_frozen BK190.out 1; have hfz16_2 := blk_frozen BK190.out 2; have hfz16_3 := blk_frozen BK190.out 3))
    go_ret
    exact ⟨q224_, q102_⟩
  ·rw [if_neg c4] at H
   have c4b0 : (a0_1 == a1_1) = false := beq_eq_false_iff_ne.mpr c4; have c4b1 : (a0_1 != a1_1) = true := bne_iff_ne.mpr c4; obtain rfl := Option.some.inj H
   go_enter Try.func15, Try.ntmps15
   go_wp2_with (first | ((with_reducible refine gate_dst (N := 2) rfl ?_); refine box_event ?hg (N := 2) ?hd (cs := #[.int .i64 a0_0, .int .i64 a0_1, .int .i64 a0_2, .slice A0_3 l0_3.length c0_3]) (t := 26) ?hr ?_; (case hd => rfl); (case hg => rfl); (case hr => first | (go_simp; done) | (go_simp; rfl)); intro gb189 hg w17 hbox hb; have n0_ := am_ (below_step q153_ hb); have n1_ := am_ (hbox); have n2_ := am_ ((q123_ : w.heap.size ≤ gb189)); have n3_ := am_ ((q123_ : w.heap.size ≤ gb189)); clear HB; have HB := n0_; have BK189 := n1_; have GW189 := n2_; have GE189 := n3_; clear n0_ n1_ n2_ n3_; clear hb hbox hg) | ((with_reducible refine gate_dst (N := 3) rfl ?_); refine box_event ?hg (N := 3) ?hd (cs := #[.int .i64 a1_0, .int .i64 a1_1, .int .i64 a1_2, .slice A1_3 l1_3.length c1_3]) (t := 26) ?hr ?_; (case hd => rfl); (case hg => rfl); (case hr => first | (go_simp; done) | (go_simp; rfl)); intro gb190 hg w18 hbox hb; have n0_ := am_ (blk_below (g := gb189) (o := .cells #[.int .i64 a0_0, .int .i64 a0_1, .int .i64 a0_2, .slice A0_3 l0_3.length c0_3] 26 (0, 0)) q170_ hb); have n1_ := am_ (below_step q131_ hb); have n2_ := am_ (hbox); have n3_ := am_ ((q93_ : w.heap.size ≤ gb190)); have n4_ := am_ ((q93_ : w.heap.size ≤ gb190)); have n5_ := am_ ((q19_ : gb189 ≠ gb190)); have n6_ := am_ ((q20_ : gb190 ≠ gb189)); clear BK189 HB; have BK189 := n0_; have HB := n1_; have BK190 := n2_; have GW190 := n3_; have GE190 := n4_; have NB189_190 := n5_; have NB190_189 := n6_; clear n0_ n1_ n2_ n3_ n4_ n5_ n6_; clear hb hbox hg; have hnb19 := NB189_190.out; have hnc19 := NB190_189.out; have hcz20_0 := bc0_ BK189.out; have hcz20_1 := bc1_ BK189.out; have hcz20_2 := bc2_ BK189.out; have hcz20_3 := bc3_ BK189.out; have hfz20_0 := blk_frozen BK189.out 0; have hfz20_1 := blk_frozen BK189.out 1; have hfz20_2 := blk_frozen BK189.out 2; have hfz20_3 := blk_frozen BK189.out 3; have hcz21_0 := bc0_ BK190.out; have hcz21_1 := bc1_ BK190.out; have hcz21_2 := bc2_ BK190.out; have hcz21_3 := bc3_ BK190.out; have hfz21_0 := blk_frozen BK190.out 0; have hfz21_1 := blk_frozen BK190.out 1; have hfz21_2 := blk_frozen BK190.out 2; have hfz21_3 := blk_frozen BK190.out 3))
   go_ret
   exact ⟨q224_, q102_⟩
 ·rw [if_neg c3] at H
  have c3b0 : (a0_0 == a1_0) = false := beq_eq_false_iff_ne.mpr c3; have c3b1 : (a0_0 != a1_0) = true := bne_iff_ne.mpr c3; obtain rfl := Option.some.inj H
  go_enter Try.func15, Try.ntmps15
  go_wp2_with (first | ((with_reducible refine gate_dst (N := 2) rfl ?_); refine box_event ?hg (N := 2) ?hd (cs := #[.int .i64 a0_0, .int .i64 a0_1, .int .i64 a0_2, .slice A0_3 l0_3.length c0_3]) (t := 26) ?hr ?_; (case hd => rfl); (case hg => rfl); (case hr => first | (go_simp; done) | (go_simp; rfl)); intro gb189 hg w22 hbox hb; have n0_ := am_ (below_step q153_ hb); have n1_ := am_ (hbox); have n2_ := am_ ((q123_ : w.heap.size ≤ gb189)); have n3_ := am_ ((q123_ : w.heap.size ≤ gb189)); clear HB; have HB := n0_; have BK189 := n1_; have GW189 := n2_; have GE189 := n3_; clear n0_ n1_ n2_ n3_; clear hb hbox hg) | ((with_reducible refine gate_dst (N := 3) rfl ?_); refine box_event ?hg (N := 3) ?hd (cs := #[.int .i64 a1_0, .int .i64 a1_1, .int .i64 a1_2, .slice A1_3 l1_3.length c1_3]) (t := 26) ?hr ?_; (case hd => rfl); (case hg => rfl); (case hr => first | (go_simp; done) | (go_simp; rfl)); intro gb190 hg w23 hbox hb; have n0_ := am_ (blk_below (g := gb189) (o := .cells #[.int .i64 a0_0, .int .i64 a0_1, .int .i64 a0_2, .slice A0_3 l0_3.length c0_3] 26 (0, 0)) q170_ hb); have n1_ := am_ (below_step q131_ hb); have n2_ := am_ (hbox); have n3_ := am_ ((q93_ : w.heap.size ≤ gb190)); have n4_ := am_ ((q93_ : w.heap.size ≤ gb190)); have n5_ := am_ ((q19_ : gb189 ≠ gb190)); have n6_ := am_ ((q20_ : gb190 ≠ gb189)); clear BK189 HB; have BK189 := n0_; have HB := n1_; have BK190 := n2_; have GW190 := n3_; have GE190 := n4_; have NB189_190 := n5_; have NB190_189 := n6_; clear n0_ n1_ n2_ n3_ n4_ n5_ n6_; clear hb hbox hg; have hnb24 := NB189_190.out; have hnc24 := NB190_189.out; have hcz25_0 := bc0_ BK189.out; have hcz25_1 := bc1_ BK189.out; have hcz25_2 := bc2_ BK189.out; have hcz25_3 := bc3_ BK189.out; have hfz25_0 := blk_frozen BK189.out 0; have hfz25_1 := blk_frozen BK189.out 1; have hfz25_2 := blk_frozen BK189.out 2; have hfz25_3 := blk_frozen BK189.out 3; have hcz26_0 := bc0_ BK190.out; have hcz26_1 := bc1_ BK190.out; have hcz26_2 := bc2_ BK190.out; have hcz26_3 := bc3_ BK190.out; have hfz26_0 := blk_frozen BK190.out 0; have hfz26_1 := blk_frozen BK190.out 1; have hfz26_2 := blk_frozen BK190.out 2; have hfz26_3 := blk_frozen BK190.out 3))
  go_ret
  exact ⟨q224_, q102_⟩


def plane_New.f (a0 : Int) (a1 : Int) (a2 : Int) : Option (Int × Int × Int × List Int × Bool) := (plane_size.f a0 a1 a2).bind fun t193 => (if t193 = true then (if 0 ≤ (wrap64 (a0 * a1)) then (if (wrap64 (a0 * a1) : Int).toNat ≤ 35184372088832 then (some (a0, a1, a2, (List.replicate (wrap64 (a0 * a1) : Int).toNat 0), true)) else (none)) else (none)) else (some (0, 0, 0, ([] : List Int), false)))
set_option maxHeartbeats 8000000 in
set_option maxRecDepth 100000 in
theorem plane_New.calls (a0 : Int) (a1 : Int) (a2 : Int) (r1 : Int) (r2 : Int) (r3 : Int) (r4 : List Int) (r5 : Bool) (w : World) (h : plane_New.f a0 a1 a2 = some (r1, r2, r3, r4, r5)) :
  Calls Try.prog 23 #[.int .i64 a0, .int .i64 a1, .int .i64 a2] w fun e w' => ∃ v3_ : Value, e = .returned (.tuple #[.agg #[.int .i64 r1, .int .i64 r2, .int .i64 r3, v3_], .bool r5]) ∧ Kd.R (Kd.int .i64) 3 w' w.heap.size (fun _ => True) v3_ r4 ∧ Below w.heap.size w w' := by
 have hu26 := Try.underlying26; have HB := am_ (Below.refl w.heap.size w); have H : ((plane_size.f a0 a1 a2).bind fun t193 => (if t193 = true then (if 0 ≤ (wrap64 (a0 * a1)) then (if (wrap64 (a0 * a1) : Int).toNat ≤ 35184372088832 then (some (a0, a1, a2, (List.replicate (wrap64 (a0 * a1) : Int).toNat 0), true)) else (none)) else (none)) else (some (0, 0, 0, ([] : List Int), false)))) = some (r1, r2, r3, r4, r5) := h; clear h; replace H := Option.bind_eq_some_iff.mp H; obtain ⟨t193, A40, H⟩ := H; replace H : (if t193 = true then (if 0 ≤ (wrap64 (a0 * a1)) then (if (wrap64 (a0 * a1) : Int).toNat ≤ 35184372088832 then (some (a0, a1, a2, (List.replicate (wrap64 (a0 * a1) : Int).toNat 0), true)) else (none)) else (none)) else (some (0, 0, 0, ([] : List Int), false))) = some (r1, r2, r3, r4, r5) := H; have A4 := am_ A40; clear A40
 by_cases c5 : t193 = true
 ·subst c5
  have H1 : (if 0 ≤ (wrap64 (a0 * a1)) then (if (wrap64 (a0 * a1) : Int).toNat ≤ 35184372088832 then (some (a0, a1, a2, (List.replicate (wrap64 (a0 * a1) : Int).toNat 0), true)) else (none)) else (none)) = some (r1, r2, r3, r4, r5) := by rw [if_pos rfl] at H; exact H
  clear H; have H := H1; clear H1; obtain ⟨ji6, hji6⟩ : ∃ j_ : Int, (wrap64 (a0 * a1)) = j_ := ⟨_, rfl⟩; replace H : (if 0 ≤ (ji6) then (if (ji6 : Int).toNat ≤ 35184372088832 then (some (a0, a1, a2, (List.replicate (ji6 : Int).toNat 0), true)) else (none)) else (none)) = some (r1, r2, r3, r4, r5) := by first | (rw [hji6] at H; exact H) | (simp only [hji6] at H ⊢; exact H)
  (try rw [hji6] at A4); have hji6w : (IntKind.i64.wrap (a0 * a1)) = ji6 := (i64_w _).trans hji6
  by_cases c7 : 0 ≤ (ji6)
  ·rw [if_pos c7] at H
   have c7b0 := eq_true c7; have c7b1 : decide (0 ≤ (ji6)) = true := decide_eq_true c7; clear c7
   by_cases c8 : (ji6 : Int).toNat ≤ 35184372088832
   ·rw [if_pos c8] at H
    have c8b0 := eq_true c8; have c8b1 : decide ((ji6 : Int).toNat ≤ 35184372088832) = true := decide_eq_true c8; clear c8; obtain ⟨y194, hy194⟩ : ∃ y_ : List Int, y_ = (List.replicate (ji6 : Int).toNat 0) := ⟨_, rfl⟩; replace H : (some (a0, a1, a2, y194, true)) = some (r1, r2, r3, r4, r5) := by first | (rw [hy194]; with_reducible exact H) | (have H2_ := (Option.bind_some _ _).symm.trans H; rw [hy194]; with_reducible exact H2_) | (have H2_ := (Option.bind_some _ _).symm.trans H; with_reducible exact H2_) | with_reducible exact H | (rw [hy194]; exact H) | exact H
    have Ny194 := am_ hy194; clear hy194; simp only [Option.some.injEq, Prod.mk.injEq] at H; obtain ⟨rfl, rfl, rfl, rfl, rfl⟩ := H
    go_enter Try.func23, Try.ntmps23
    go_wp2_with (first | ((with_reducible refine gate_dst (N := 6) rfl ?_); refine box_event ?hg (N := 6) ?hd (cs := #[.int .i64 0, .int .i64 0, .int .i64 0, .slice none 0 0]) (t := 26) ?hr ?_; (case hd => rfl); (case hg => rfl); (case hr => first | (go_simp; done) | (go_simp; rfl)); intro gb192 hg w9 hbox hb; have n0_ := am_ (below_step q153_ hb); have n1_ := am_ (hbox); have n2_ := am_ ((q123_ : w.heap.size ≤ gb192)); have n3_ := am_ ((q123_ : w.heap.size ≤ gb192)); clear HB; have HB := n0_; have BK192 := n1_; have GW192 := n2_; have GE192 := n3_; clear n0_ n1_ n2_ n3_; clear hb hbox hg) | ((with_reducible refine gate_callee (f := 40) rfl ?_); refine goesL_ (some 11) rfl rfl Try.func40 (by kernel_rfl) rfl #[.int .i64 a0, .int .i64 a1, .int .i64 a2] rfl q150_ ?_; (with_reducible refine (plane_size.calls a0 a1 a2 true _ A4.out).mono ?_); rintro e w' ⟨rfl, ⟨nd, rfl⟩⟩; refine ⟨_, rfl, ?_⟩; (try (rw [drewN_self w9]; generalize hq_ : World.drewN w9 _ = w9; have n0_ : Aside0 (w9.heap[gb192]? = some (.cells #[.int .i64 0, .int .i64 0, .int .i64 0, .slice none 0 0] 26 (0, 0))) := ⟨by rw [← hq_]; exact q171_⟩; have n1_ : Aside0 (Below w.heap.size w w9) := ⟨by rw [← hq_]; exact q132_⟩; clear BK192 HB hq_; have BK192 := n0_; have HB := n1_; clear n0_ n1_))) | ((with_reducible refine gate_dst (N := 20) rfl ?_); refine Kd.R_make (Kd.int .i64) _ 3 rfl (N := 20) rfl 22 _ _ rfl ji6 rfl rfl Try.underlying22 (.int .i64 0) 8 info3 rfl (by decide) (by omega) 0 (ok := fun _ => True) (okp := fun _ => True) rfl (fun _ hk => hk) trivial (of_decide_eq_true q226_) (Nat.le_trans (Nat.mul_le_mul_right _ (of_decide_eq_true q226_ : ji6.toNat ≤ 35184372088832)) (by omega)) (Below.refl _ _) (Nat.le_refl _) ?_; intro v195 w10 ho11 hb hg_ hnew_; clear hg_ hnew_; (first | rw [← Ny194.out] at ho11 | (simp only [Int.reduceToNat] at ho11; rw [← Ny194.out] at ho11)); have n0_ := am_ (Kd.R_lower ho11 (below_size q132_)); have n1_ := am_ (blk_below (g := gb192) (o := .cells #[.int .i64 0, .int .i64 0, .int .i64 0, .slice none 0 0] 26 (0, 0)) q171_ hb); have n2_ := am_ (below_step q132_ hb); clear BK192 HB; have HO196 := n0_; have BK192 := n1_; have HB := n2_; clear n0_ n1_ n2_; clear hb ho11; obtain ⟨Ao12, co12, eo12⟩ := Kd.R_slice HO196.out; subst eo12; have hcz13_0 := bc0_ BK192.out; have hcz13_1 := bc1_ BK192.out; have hcz13_2 := bc2_ BK192.out; have hcz13_3 := bc3_ BK192.out; have hfz13_0 := blk_frozen BK192.out 0; have hfz13_1 := blk_frozen BK192.out 1; have hfz13_2 := blk_frozen BK192.out 2; have hfz13_3 := blk_frozen BK192.out 3))
    refine bodyPost_ret (results_ct rfl _ _ gb192 26 #[.int .i64 a0, .int .i64 a1, .int .i64 a2, .slice Ao12 y194.length co12] (0, 0) _ rfl (by (with_reducible repeat (first | refine blk_drewN ?_ _ | refine blk_drew ?_ | refine blk_alloc ?_ _)); refine blk_put (cs := #[.int .i64 a0, .int .i64 a1, .int .i64 a2, .slice none 0 0]) ?_ 3 _ rfl; (with_reducible repeat (first | refine blk_drewN ?_ _ | refine blk_drew ?_ | refine blk_alloc ?_ _)); refine blk_put (cs := #[.int .i64 a0, .int .i64 a1, .int .i64 0, .slice none 0 0]) ?_ 2 _ rfl; (with_reducible repeat (first | refine blk_drewN ?_ _ | refine blk_drew ?_ | refine blk_alloc ?_ _)); refine blk_put (cs := #[.int .i64 a0, .int .i64 0, .int .i64 0, .slice none 0 0]) ?_ 1 _ rfl; (with_reducible repeat (first | refine blk_drewN ?_ _ | refine blk_drew ?_ | refine blk_alloc ?_ _)); refine blk_put (cs := #[.int .i64 0, .int .i64 0, .int .i64 0, .slice none 0 0]) ?_ 0 _ rfl; (with_reducible repeat (first | refine blk_drewN ?_ _ | refine blk_drew ?_ | refine blk_alloc ?_ _)); exact BK192.out) Try.underlying26 rfl (by kernel_rfl)) rfl ?_; exact ⟨_, q117_, by (with_reducible repeat (first | apply Kd.R_alloc | apply Kd.R_drewN | apply Kd.R_drew)); exact Kd.R_mono (Kd.R_far (p := ⟨gb192, 3, none⟩) (Kd.R_far (p := ⟨gb192, 2, none⟩) (Kd.R_far (p := ⟨gb192, 1, none⟩) (Kd.R_far (p := ⟨gb192, 0, none⟩) (Kd.R_types HO196.out BK192.out (by decide)) (fun _ hk => hk.2) (.int .i64 a0)) (fun _ hk => hk.2) (.int .i64 a1)) (fun _ hk => hk.2) (.int .i64 a2)) (fun _ hk => hk.2) (.slice Ao12 y194.length co12)) (fun _ hk => trivial), q132_⟩
   ·rw [if_neg c8] at H
    exact absurd H (by simp)
  ·rw [if_neg c7] at H
   exact absurd H (by simp)
 ·replace c5 := Bool.eq_false_iff.mpr c5
  subst c5; have H1 : (some (0, 0, 0, ([] : List Int), false)) = some (r1, r2, r3, r4, r5) := by rw [if_neg (show ¬ (false = true) by decide)] at H; exact H
  clear H; have H := H1; clear H1; simp only [Option.some.injEq, Prod.mk.injEq] at H; obtain ⟨rfl, rfl, rfl, rfl, rfl⟩ := H
  go_enter Try.func23, Try.ntmps23
  go_wp2_with (first | ((with_reducible refine gate_dst (N := 6) rfl ?_); refine box_event ?hg (N := 6) ?hd (cs := #[.int .i64 0, .int .i64 0, .int .i64 0, .slice none 0 0]) (t := 26) ?hr ?_; (case hd => rfl); (case hg => rfl); (case hr => first | (go_simp; done) | (go_simp; rfl)); intro gb192 hg w14 hbox hb; have n0_ := am_ (below_step q153_ hb); have n1_ := am_ (hbox); have n2_ := am_ ((q123_ : w.heap.size ≤ gb192)); have n3_ := am_ ((q123_ : w.heap.size ≤ gb192)); clear HB; have HB := n0_; have BK192 := n1_; have GW192 := n2_; have GE192 := n3_; clear n0_ n1_ n2_ n3_; clear hb hbox hg) | ((with_reducible refine gate_callee (f := 40) rfl ?_); refine goesL_ (some 11) rfl rfl Try.func40 (by kernel_rfl) rfl #[.int .i64 a0, .int .i64 a1, .int .i64 a2] rfl q150_ ?_; (with_reducible refine (plane_size.calls a0 a1 a2 false _ A4.out).mono ?_); rintro e w' ⟨rfl, ⟨nd, rfl⟩⟩; refine ⟨_, rfl, ?_⟩; (try (rw [drewN_self w14]; generalize hq_ : World.drewN w14 _ = w14; have n0_ : Aside0 (w14.heap[gb192]? = some (.cells #[.int .i64 0, .int .i64 0, .int .i64 0, .slice none 0 0] 26 (0, 0))) := ⟨by rw [← hq_]; exact q171_⟩; have n1_ : Aside0 (Below w.heap.size w w14) := ⟨by rw [← hq_]; exact q132_⟩; clear BK192 HB hq_; have BK192 := n0_; have HB := n1_; clear n0_ n1_)); have hcz15_0 := bc0_ BK192.out; have hcz15_1 := bc1_ BK192.out; have hcz15_2 := bc2_ BK192.out; have hcz15_3 := bc3_ BK192.out; have hfz15_0 := blk_frozen BK192.out 0; have hfz15_1 := blk_frozen BK192.out 1; have hfz15_2 := blk_frozen BK192.out 2; have hfz15_3 := blk_frozen BK192.out 3))
  refine bodyPost_ret (results_ct rfl _ _ gb192 26 #[.int .i64 0, .int .i64 0, .int .i64 0, .slice none 0 0] (0, 0) _ rfl (by (with_reducible repeat (first | refine blk_drewN ?_ _ | refine blk_drew ?_ | refine blk_alloc ?_ _)); refine blk_put (cs := #[.int .i64 0, .int .i64 0, .int .i64 0, .slice none 0 0]) ?_ 3 _ rfl; (with_reducible repeat (first | refine blk_drewN ?_ _ | refine blk_drew ?_ | refine blk_alloc ?_ _)); refine blk_put (cs := #[.int .i64 0, .int .i64 0, .int .i64 0, .slice none 0 0]) ?_ 2 _ rfl; (with_reducible repeat (first | refine blk_drewN ?_ _ | refine blk_drew ?_ | refine blk_alloc ?_ _)); refine blk_put (cs := #[.int .i64 0, .int .i64 0, .int .i64 0, .slice none 0 0]) ?_ 1 _ rfl; (with_reducible repeat (first | refine blk_drewN ?_ _ | refine blk_drew ?_ | refine blk_alloc ?_ _)); refine blk_put (cs := #[.int .i64 0, .int .i64 0, .int .i64 0, .slice none 0 0]) ?_ 0 _ rfl; (with_reducible repeat (first | refine blk_drewN ?_ _ | refine blk_drew ?_ | refine blk_alloc ?_ _)); exact BK192.out) Try.underlying26 rfl (by kernel_rfl)) rfl ?_; exact ⟨_, q224_, q149_, q132_⟩


def border_Valid.j0 : Nat → Int → Int → Bool → Int → Int → Option (Bool)
 | 0, _, _, _, _, _ => none
 | k + 1, x1, x6, x7, x198000, x198001 => if x7 = true then (some (x198001 == 0)) else (if x6 = 3 then (if x198001 ≥ 0 then (some (decide (x198001 ≤ x1))) else (some false)) else (some false))
def border_Valid.f (k : Nat) (a0_0 : Int) (a0_1 : Int) (a1 : Int) : Option (Bool) := if a0_0 = 0 then (border_Valid.j0 k a1 a0_0 (a0_0 == 0) a0_0 a0_1) else (if a0_0 = 1 then (border_Valid.j0 k a1 a0_0 (a0_0 == 1) a0_0 a0_1) else (border_Valid.j0 k a1 a0_0 (a0_0 == 2) a0_0 a0_1))
theorem border_Valid.mono_l : ∀ k, (∀ y0 y1 y2 y3 y4, LeO (border_Valid.j0 k y0 y1 y2 y3 y4) (border_Valid.j0 (k + 1) y0 y1 y2 y3 y4))
 | 0 => fun _ _ _ _ _ r h => by simp [border_Valid.j0] at h
 | k + 1 => by
  have ih0 := border_Valid.mono_l k
  ·intro y0 y1 y2 y3 y4
   unfold border_Valid.j0
   repeat' first
   | (with_reducible exact ih0 _ _ _ _ _)
   | (with_reducible exact LeO.refl _)
   | (with_reducible exact LeO.none _)
   | (with_reducible refine LeO.ite ?_ ?_)
   | (with_reducible refine LeO.bind ?_ (fun _ => ?_))
   | exact ih0 _ _ _ _ _
   | exact LeO.none _
   | refine LeO.ite ?_ ?_
   | refine LeO.bind ?_ (fun _ => ?_)
theorem border_Valid.mono : ∀ a0 a1 a2 k, LeO (border_Valid.f k a0 a1 a2) (border_Valid.f (k + 1) a0 a1 a2) := by
 intro a0 a1 a2 k; have ih0 := border_Valid.mono_l k; unfold border_Valid.f
 repeat' first
   | (with_reducible exact ih0 _ _ _ _ _)
   | (with_reducible exact LeO.refl _)
   | (with_reducible exact LeO.none _)
   | (with_reducible refine LeO.ite ?_ ?_)
   | (with_reducible refine LeO.bind ?_ (fun _ => ?_))
   | exact ih0 _ _ _ _ _
   | exact LeO.none _
   | refine LeO.ite ?_ ?_
   | refine LeO.bind ?_ (fun _ => ?_)
set_option maxHeartbeats 8000000 in
set_option maxRecDepth 100000 in
theorem border_Valid.calls (k : Nat) (a0_0 : Int) (a0_1 : Int) (a1 : Int) (r : Bool) (w : World) (h : border_Valid.f k a0_0 a0_1 a1 = some r) :
  Calls Try.prog 43 #[.agg #[.int .i64 a0_0, .int .i64 a0_1], .int .i64 a1] w fun e w' => e = .returned (.bool r) ∧ Below w.heap.size w w' := by
 have hu45 := Try.underlying45; have HB := am_ (Below.refl w.heap.size w); have H : (if a0_0 = 0 then (border_Valid.j0 k a1 a0_0 (a0_0 == 0) a0_0 a0_1) else (if a0_0 = 1 then (border_Valid.j0 k a1 a0_0 (a0_0 == 1) a0_0 a0_1) else (border_Valid.j0 k a1 a0_0 (a0_0 == 2) a0_0 a0_1))) = some r := h; clear h; have HC3 := am_ H; clear H
 go_enter Try.func43, Try.ntmps43
 go_upto_if 7 with (first | ((with_reducible refine gate_dst (N := 2) rfl ?_); refine box_event ?hg (N := 2) ?hd (cs := #[.int .i64 a0_0, .int .i64 a0_1]) (t := 45) ?hr ?_; (case hd => rfl); (case hg => rfl); (case hr => first | (go_simp; done) | (go_simp; rfl)); intro gb197 hg w4 hbox hb; have n0_ := am_ (below_step q153_ hb); have n1_ := am_ (hbox); have n2_ := am_ ((q123_ : w.heap.size ≤ gb197)); have n3_ := am_ ((q123_ : w.heap.size ≤ gb197)); clear HB; have HB := n0_; have BK197 := n1_; have GW197 := n2_; have GE197 := n3_; clear n0_ n1_ n2_ n3_; clear hb hbox hg; have hcz5_0 := bc0_ BK197.out; have hcz5_1 := bc1_ BK197.out; have hfz5_0 := blk_frozen BK197.out 0; have hfz5_1 := blk_frozen BK197.out 1))
 (try simp only [Act.put, la_, lz_, ls_])
 go_cut [7] (fun v7 wc => ∃ (kq : Nat) (x7_2 : Bool), v7 = .bool x7_2 ∧ Aside0 (border_Valid.j0 kq a1 a0_0 x7_2 a0_0 a0_1 = some r) ∧ Aside0 (kq ≤ k) ∧ Aside0 (wc.heap[gb197]? = some (.cells #[.int .i64 a0_0, .int .i64 a0_1] 45 (0, 0))) ∧ Aside0 (Below w.heap.size w wc))
 case first =>
  have H := HC3.out; clear HC3
  by_cases c6 : a0_0 = 0
  ·rw [if_pos c6] at H
   have c6b0 : (a0_0 == 0) = true := beq_iff_eq.mpr c6; have c6b1 : (a0_0 != 0) = false := bne_eq_false_iff_eq.mpr c6; clear c6; (first | rw [c6b0] | (simp only [i64_w, i32_w]; rw [c6b0]) | skip); have H' := am_ H; clear H
   go_wp2
   go_meet
   case rel => exact ⟨_, ((a0_0 == 0)), q227_, H', ⟨by first | omega | exact Nat.le_refl _⟩, ⟨q172_⟩, ⟨q133_⟩⟩
  ·rw [if_neg c6] at H
   have c6b0 : (a0_0 == 0) = false := beq_eq_false_iff_ne.mpr c6; have c6b1 : (a0_0 != 0) = true := bne_iff_ne.mpr c6; (first | rw [c6b0] | (simp only [i64_w, i32_w]; rw [c6b0]) | skip)
   by_cases c7 : a0_0 = 1
   ·rw [if_pos c7] at H
    have c7b0 : (a0_0 == 1) = true := beq_iff_eq.mpr c7; have c7b1 : (a0_0 != 1) = false := bne_eq_false_iff_eq.mpr c7; clear c7; have H' := am_ H; clear H
    go_wp2
    go_meet
    case rel => exact ⟨_, ((a0_0 == 1)), q227_, H', ⟨by first | omega | exact Nat.le_refl _⟩, ⟨q172_⟩, ⟨q133_⟩⟩
   ·rw [if_neg c7] at H
    have c7b0 : (a0_0 == 1) = false := beq_eq_false_iff_ne.mpr c7; have c7b1 : (a0_0 != 1) = true := bne_iff_ne.mpr c7; have H' := am_ H; clear H
    go_wp2
    go_meet
    case rel => exact ⟨_, ((a0_0 == 2)), q227_, H', ⟨by first | omega | exact Nat.le_refl _⟩, ⟨q172_⟩, ⟨q133_⟩⟩
 case rest =>
  clear HC3; (try clear p2); (try clear c4); (try clear c6); (try clear c6b0); (try clear c6b1); (try clear c7); (try clear c7b0); (try clear c7b1); (try clear hcz5_0 hcz5_1); (try clear hfz5_0 hfz5_1); obtain ⟨kq, x7_2, rfl, HA, HJ2, BK197, HB⟩ := hcut; cases kq with
  | zero => exact absurd HA.out (by simp [border_Valid.j0])
  | succ kj2 =>
   have H := HA.out; clear HA; simp only [border_Valid.j0] at H
   by_cases c8 : x7_2 = true
   ·subst c8
    have H1 : (some (a0_1 == 0)) = some r := by rw [if_pos rfl] at H; exact H
    clear H; have H := H1; clear H1; obtain rfl := Option.some.inj H; have hcz9_0 := bc0_ BK197.out; have hcz9_1 := bc1_ BK197.out; have hfz9_0 := blk_frozen BK197.out 0; have hfz9_1 := blk_frozen BK197.out 1
    go_wp2
    go_ret
    exact ⟨q224_, q133_⟩
   ·replace c8 := Bool.eq_false_iff.mpr c8
    subst c8; have H1 : (if a0_0 = 3 then (if a0_1 ≥ 0 then (some (decide (a0_1 ≤ a1))) else (some false)) else (some false)) = some r := by rw [if_neg (show ¬ (false = true) by decide)] at H; exact H
    clear H; have H := H1; clear H1
    by_cases c10 : a0_0 = 3
    ·rw [if_pos c10] at H
     have c10b0 : (a0_0 == 3) = true := beq_iff_eq.mpr c10; have c10b1 : (a0_0 != 3) = false := bne_eq_false_iff_eq.mpr c10; clear c10
     by_cases c11 : a0_1 ≥ 0
     ·rw [if_pos c11] at H
      have c11b0 : decide (0 ≤ a0_1) = true := decide_eq_true c11; clear c11; obtain rfl := Option.some.inj H; have hcz12_0 := bc0_ BK197.out; have hcz12_1 := bc1_ BK197.out; have hfz12_0 := blk_frozen BK197.out 0; have hfz12_1 := blk_frozen BK197.out 1
      go_wp2
      go_ret
      exact ⟨q224_, q133_⟩
     ·rw [if_neg c11] at H
      have c11b0 : decide (0 ≤ a0_1) = false := decide_eq_false c11; clear c11; obtain rfl := Option.some.inj H; have hcz13_0 := bc0_ BK197.out; have hcz13_1 := bc1_ BK197.out; have hfz13_0 := blk_frozen BK197.out 0; have hfz13_1 := blk_frozen BK197.out 1
      go_wp2
      go_ret
      exact ⟨q224_, q133_⟩
    ·rw [if_neg c10] at H
     have c10b0 : (a0_0 == 3) = false := beq_eq_false_iff_ne.mpr c10; have c10b1 : (a0_0 != 3) = true := bne_iff_ne.mpr c10; obtain rfl := Option.some.inj H
     go_wp2
     go_ret
     exact ⟨q224_, q133_⟩


def border_mod.f (a0 : Int) (a1 : Int) : Option (Int) := if a1 = 0 then (none) else (if (Int.tmod a0 a1) < 0 then (some (wrap64 ((Int.tmod a0 a1) + a1))) else (some (Int.tmod a0 a1)))
set_option maxHeartbeats 8000000 in
set_option maxRecDepth 100000 in
theorem border_mod.calls (a0 : Int) (a1 : Int) (r : Int) (w : World) (h : border_mod.f a0 a1 = some r) :
  Calls Try.prog 58 #[.int .i64 a0, .int .i64 a1] w fun e w' => e = .returned (.int .i64 r) ∧ Drawn0 w w' := by
 have H : (if a1 = 0 then (none) else (if (Int.tmod a0 a1) < 0 then (some (wrap64 ((Int.tmod a0 a1) + a1))) else (some (Int.tmod a0 a1)))) = some r := h; clear h
 by_cases c3 : a1 = 0
 ·rw [if_pos c3] at H
  exact absurd H (by simp)
 ·rw [if_neg c3] at H
  have c3b0 : (a1 == 0) = false := beq_eq_false_iff_ne.mpr c3; have c3b1 : (a1 != 0) = true := bne_iff_ne.mpr c3
  by_cases c4 : (Int.tmod a0 a1) < 0
  ·rw [if_pos c4] at H
   have c4b0 : decide ((Int.tmod a0 a1) < 0) = true := decide_eq_true c4; clear c4; obtain rfl := Option.some.inj H
   go_enter Try.func58, Try.ntmps58
   go_wp2
   go_ret
   exact ⟨q227_, q225_⟩
  ·rw [if_neg c4] at H
   have c4b0 : decide ((Int.tmod a0 a1) < 0) = false := decide_eq_false c4; clear c4; obtain rfl := Option.some.inj H
   go_enter Try.func58, Try.ntmps58
   go_wp2
   go_ret
   exact ⟨q227_, q225_⟩


def border_Index.j0 : Nat → Int → Int → Int → Bool → Option (Int × Bool)
 | 0, _, _, _, _ => none
 | k + 1, x0, x1, x2, x14 => if x14 = true then (some (0, false)) else (if x2 = 0 then (some (mn (mx x0 0) (wrap64 (x1 - 1)), true)) else (if x2 = 1 then ((border_mod.f x0 (wrap64 (2 * x1))).bind fun t198 => (some (mn t198 (wrap64 ((wrap64 ((wrap64 (2 * x1)) - 1)) - t198)), true))) else (if x2 = 2 then ((border_mod.f x0 x1).bind fun t199 => (some (t199, true))) else (if x2 = 3 then (if x0 ≥ 0 then (if x0 < x1 then (some (x0, true)) else (some (0, false))) else (some (0, false))) else (some (0, false))))))
def border_Index.f (k : Nat) (a0 : Int) (a1 : Int) (a2 : Int) : Option (Int × Bool) := if a1 < 1 then (border_Index.j0 k a0 a1 a2 true) else (border_Index.j0 k a0 a1 a2 (decide (a1 > 128)))
theorem border_Index.mono_l : ∀ k, (∀ y0 y1 y2 y3, LeO (border_Index.j0 k y0 y1 y2 y3) (border_Index.j0 (k + 1) y0 y1 y2 y3))
 | 0 => fun _ _ _ _ r h => by simp [border_Index.j0] at h
 | k + 1 => by
  have ih0 := border_Index.mono_l k
  ·intro y0 y1 y2 y3
   unfold border_Index.j0
   repeat' first
   | (with_reducible exact ih0 _ _ _ _)
   | (with_reducible exact LeO.refl _)
   | (with_reducible exact LeO.none _)
   | (with_reducible refine LeO.ite ?_ ?_)
   | (with_reducible refine LeO.bind ?_ (fun _ => ?_))
   | exact ih0 _ _ _ _
   | exact LeO.none _
   | refine LeO.ite ?_ ?_
   | refine LeO.bind ?_ (fun _ => ?_)
theorem border_Index.mono : ∀ a0 a1 a2 k, LeO (border_Index.f k a0 a1 a2) (border_Index.f (k + 1) a0 a1 a2) := by
 intro a0 a1 a2 k; have ih0 := border_Index.mono_l k; unfold border_Index.f
 repeat' first
   | (with_reducible exact ih0 _ _ _ _)
   | (with_reducible exact LeO.refl _)
   | (with_reducible exact LeO.none _)
   | (with_reducible refine LeO.ite ?_ ?_)
   | (with_reducible refine LeO.bind ?_ (fun _ => ?_))
   | exact ih0 _ _ _ _
   | exact LeO.none _
   | refine LeO.ite ?_ ?_
   | refine LeO.bind ?_ (fun _ => ?_)
set_option maxHeartbeats 8000000 in
set_option maxRecDepth 100000 in
theorem border_Index.calls (k : Nat) (a0 : Int) (a1 : Int) (a2 : Int) (r1 : Int) (r2 : Bool) (w : World) (h : border_Index.f k a0 a1 a2 = some (r1, r2)) :
  Calls Try.prog 54 #[.int .i64 a0, .int .i64 a1, .int .i64 a2] w fun e w' => e = .returned (.tuple #[.int .i64 r1, .bool r2]) ∧ Below w.heap.size w w' := by
 have HB := am_ (Below.refl w.heap.size w); have H : (if a1 < 1 then (border_Index.j0 k a0 a1 a2 true) else (border_Index.j0 k a0 a1 a2 (decide (a1 > 128)))) = some (r1, r2) := h; clear h; have HC4 := am_ H; clear H
 go_enter Try.func54, Try.ntmps54
 go_upto_region 1 with (fail)
 go_cut [14] (fun v14 wc => ∃ (kq : Nat) (x14_3 : Bool), v14 = .bool x14_3 ∧ Aside0 (border_Index.j0 kq a0 a1 a2 x14_3 = some (r1, r2)) ∧ Aside0 (kq ≤ k) ∧ Aside0 (Below w.heap.size w wc))
 case first =>
  have H := HC4.out; clear HC4
  by_cases c5 : a1 < 1
  ·rw [if_pos c5] at H
   have c5b0 : decide (a1 < 1) = true := decide_eq_true c5; clear c5; (first | rw [c5b0] | (simp only [i64_w, i32_w]; rw [c5b0]) | skip); have H' := am_ H; clear H
   go_wp2
   go_meet
   case rel => exact ⟨_, (true), q227_, H', ⟨by first | omega | exact Nat.le_refl _⟩, ⟨q153_⟩⟩
  ·rw [if_neg c5] at H
   have c5b0 : decide (a1 < 1) = false := decide_eq_false c5; clear c5; (first | rw [c5b0] | (simp only [i64_w, i32_w]; rw [c5b0]) | skip); have H' := am_ H; clear H
   go_wp2
   go_meet
   case rel => exact ⟨_, (decide (a1 > 128)), q227_, H', ⟨by first | omega | exact Nat.le_refl _⟩, ⟨q153_⟩⟩
 case rest =>
  clear HC4; (try clear p2); (try clear c5); (try clear c5b0); obtain ⟨kq, x14_3, rfl, HA, HJ3, HB⟩ := hcut; cases kq with
  | zero => exact absurd HA.out (by simp [border_Index.j0])
  | succ kj3 =>
   have H := HA.out; clear HA; simp only [border_Index.j0] at H
   by_cases c6 : x14_3 = true
   ·subst c6
    have H1 : (some (0, false)) = some (r1, r2) := by rw [if_pos rfl] at H; exact H
    clear H; have H := H1; clear H1; simp only [Option.some.injEq, Prod.mk.injEq] at H; obtain ⟨rfl, rfl⟩ := H
    go_wp2
    go_ret2
    exact ⟨q224_, q153_⟩
   ·replace c6 := Bool.eq_false_iff.mpr c6
    subst c6; have H1 : (if a2 = 0 then (some (mn (mx a0 0) (wrap64 (a1 - 1)), true)) else (if a2 = 1 then ((border_mod.f a0 (wrap64 (2 * a1))).bind fun t198 => (some (mn t198 (wrap64 ((wrap64 ((wrap64 (2 * a1)) - 1)) - t198)), true))) else (if a2 = 2 then ((border_mod.f a0 a1).bind fun t199 => (some (t199, true))) else (if a2 = 3 then (if a0 ≥ 0 then (if a0 < a1 then (some (a0, true)) else (some (0, false))) else (some (0, false))) else (some (0, false)))))) = some (r1, r2) := by rw [if_neg (show ¬ (false = true) by decide)] at H; exact H
    clear H; have H := H1; clear H1
    by_cases c7 : a2 = 0
    ·rw [if_pos c7] at H
     have c7b0 : (a2 == 0) = true := beq_iff_eq.mpr c7; have c7b1 : (a2 != 0) = false := bne_eq_false_iff_eq.mpr c7; clear c7; obtain ⟨ji8, hji8⟩ : ∃ j_ : Int, (mx a0 0) = j_ := ⟨_, rfl⟩; replace H : (some (mn (ji8) (wrap64 (a1 - 1)), true)) = some (r1, r2) := by first | (rw [hji8] at H; exact H) | (simp only [hji8] at H ⊢; exact H)
     have hji8_ : (if a0 < 0 then 0 else a0) = ji8 := hji8; obtain ⟨ji9, hji9⟩ : ∃ j_ : Int, (mn (ji8) (wrap64 (a1 - 1))) = j_ := ⟨_, rfl⟩; replace H : (some (ji9, true)) = some (r1, r2) := by first | (rw [hji9] at H; exact H) | (simp only [hji9] at H ⊢; exact H)
     have hji9_ : (if (wrap64 (a1 - 1)) < (ji8) then (wrap64 (a1 - 1)) else (ji8)) = ji9 := hji9; simp only [Option.some.injEq, Prod.mk.injEq] at H; obtain ⟨rfl, rfl⟩ := H
     go_wp2
     go_ret2
     exact ⟨by first | rfl | (simp [errW_none, errW_some] <;> rfl) | (simp only [← hji8, ← hji9]; first | rfl | (simp [errW_none, errW_some] <;> rfl)) | (simp [*, errW_none, errW_some] <;> rfl), q153_⟩
    ·rw [if_neg c7] at H
     have c7b0 : (a2 == 0) = false := beq_eq_false_iff_ne.mpr c7; have c7b1 : (a2 != 0) = true := bne_iff_ne.mpr c7
     by_cases c10 : a2 = 1
     ·rw [if_pos c10] at H
      have c10b0 : (a2 == 1) = true := beq_iff_eq.mpr c10; have c10b1 : (a2 != 1) = false := bne_eq_false_iff_eq.mpr c10; clear c10; replace H := Option.bind_eq_some_iff.mp H; obtain ⟨t198, A110, H⟩ := H; replace H : (some (mn t198 (wrap64 ((wrap64 ((wrap64 (2 * a1)) - 1)) - t198)), true)) = some (r1, r2) := H; have A11 := am_ A110; clear A110; obtain ⟨ji12, hji12⟩ : ∃ j_ : Int, (mn t198 (wrap64 ((wrap64 ((wrap64 (2 * a1)) - 1)) - t198))) = j_ := ⟨_, rfl⟩; replace H : (some (ji12, true)) = some (r1, r2) := by first | (rw [hji12] at H; exact H) | (simp only [hji12] at H ⊢; exact H)
      (try rw [hji12] at A11); have hji12_ : (if (wrap64 ((wrap64 ((wrap64 (2 * a1)) - 1)) - t198)) < t198 then (wrap64 ((wrap64 ((wrap64 (2 * a1)) - 1)) - t198)) else t198) = ji12 := hji12; simp only [Option.some.injEq, Prod.mk.injEq] at H; obtain ⟨rfl, rfl⟩ := H
      go_wp2_with (first | ((with_reducible refine gate_callee (f := 58) rfl ?_); refine goesL_ (some 28) rfl rfl Try.func58 (by kernel_rfl) rfl #[.int .i64 a0, .int .i64 (wrap64 (2 * a1))] rfl q150_ ?_; (with_reducible refine (border_mod.calls a0 (wrap64 (2 * a1)) t198 _ A11.out).mono ?_); rintro e w' ⟨rfl, ⟨nd, rfl⟩⟩; refine ⟨_, rfl, ?_⟩))
      go_ret2
      exact ⟨by first | rfl | (simp [errW_none, errW_some] <;> rfl) | (simp only [← hji12]; first | rfl | (simp [errW_none, errW_some] <;> rfl)) | (simp [*, errW_none, errW_some] <;> rfl), q153_⟩
     ·rw [if_neg c10] at H
      have c10b0 : (a2 == 1) = false := beq_eq_false_iff_ne.mpr c10; have c10b1 : (a2 != 1) = true := bne_iff_ne.mpr c10
      by_cases c13 : a2 = 2
      ·rw [if_pos c13] at H
       have c13b0 : (a2 == 2) = true := beq_iff_eq.mpr c13; have c13b1 : (a2 != 2) = false := bne_eq_false_iff_eq.mpr c13; clear c13; replace H := Option.bind_eq_some_iff.mp H; obtain ⟨t199, A140, H⟩ := H; replace H : (some (t199, true)) = some (r1, r2) := H; have A14 := am_ A140; clear A140; simp only [Option.some.injEq, Prod.mk.injEq] at H; obtain ⟨rfl, rfl⟩ := H
       go_wp2_with (first | ((with_reducible refine gate_callee (f := 58) rfl ?_); refine goesL_ (some 40) rfl rfl Try.func58 (by kernel_rfl) rfl #[.int .i64 a0, .int .i64 a1] rfl q150_ ?_; (with_reducible refine (border_mod.calls a0 a1 t199 _ A14.out).mono ?_); rintro e w' ⟨rfl, ⟨nd, rfl⟩⟩; refine ⟨_, rfl, ?_⟩))
       go_ret2
       exact ⟨q224_, q153_⟩
      ·rw [if_neg c13] at H
       have c13b0 : (a2 == 2) = false := beq_eq_false_iff_ne.mpr c13; have c13b1 : (a2 != 2) = true := bne_iff_ne.mpr c13
       by_cases c15 : a2 = 3
       ·rw [if_pos c15] at H
        have c15b0 : (a2 == 3) = true := beq_iff_eq.mpr c15; have c15b1 : (a2 != 3) = false := bne_eq_false_iff_eq.mpr c15; clear c15
        by_cases c16 : a0 ≥ 0
        ·rw [if_pos c16] at H
         have c16b0 : decide (0 ≤ a0) = true := decide_eq_true c16; clear c16
         by_cases c17 : a0 < a1
         ·rw [if_pos c17] at H
          have c17b0 : decide (a0 < a1) = true := decide_eq_true c17; clear c17; simp only [Option.some.injEq, Prod.mk.injEq] at H; obtain ⟨rfl, rfl⟩ := H
          go_wp2
          go_ret2
          exact ⟨q224_, q153_⟩
         ·rw [if_neg c17] at H
          have c17b0 : decide (a0 < a1) = false := decide_eq_false c17; clear c17; simp only [Option.some.injEq, Prod.mk.injEq] at H; obtain ⟨rfl, rfl⟩ := H
          go_wp2
          go_ret2
          exact ⟨q224_, q153_⟩
        ·rw [if_neg c16] at H
         have c16b0 : decide (0 ≤ a0) = false := decide_eq_false c16; clear c16; simp only [Option.some.injEq, Prod.mk.injEq] at H; obtain ⟨rfl, rfl⟩ := H
         go_wp2
         go_ret2
         exact ⟨q224_, q153_⟩
       ·rw [if_neg c15] at H
        have c15b0 : (a2 == 3) = false := beq_eq_false_iff_ne.mpr c15; have c15b1 : (a2 != 3) = true := bne_iff_ne.mpr c15; simp only [Option.some.injEq, Prod.mk.injEq] at H; obtain ⟨rfl, rfl⟩ := H
        go_wp2
        go_ret2
        exact ⟨q224_, q153_⟩


def plane_Pixel.f (k : Nat) (a0_0 : Int) (a0_1 : Int) (a0_2 : Int) (l0_3 : List Int) (a1_0 : Int) (a1_1 : Int) (a2 : Int) (a3 : Int) : Option (Int) := (border_Index.f k a2 a0_0 a1_0).bind fun bt202 => ((border_Index.f k a3 a0_1 a1_0).bind fun bt204 => (if bt202.2 = true then (if bt204.2 = true then (if 0 ≤ (wrap64 ((wrap64 (bt204.1 * a0_0)) + bt202.1)) then (if (wrap64 ((wrap64 (bt204.1 * a0_0)) + bt202.1)) < (l0_3.length : Int) then (some (rd l0_3 (wrap64 ((wrap64 (bt204.1 * a0_0)) + bt202.1)))) else (none)) else (none)) else (some a1_1)) else (some a1_1)))
theorem plane_Pixel.mono : ∀ a0 a1 a2 a3 a4 a5 a6 a7 k, LeO (plane_Pixel.f k a0 a1 a2 a3 a4 a5 a6 a7) (plane_Pixel.f (k + 1) a0 a1 a2 a3 a4 a5 a6 a7) := by
 intro a0 a1 a2 a3 a4 a5 a6 a7 k; unfold plane_Pixel.f
 repeat' first
   | (with_reducible exact border_Index.mono _ _ _ _)
   | (with_reducible exact LeO.refl _)
   | (with_reducible exact LeO.none _)
   | (with_reducible refine LeO.ite ?_ ?_)
   | (with_reducible refine LeO.bind ?_ (fun _ => ?_))
   | exact border_Index.mono _ _ _ _
   | exact LeO.none _
   | refine LeO.ite ?_ ?_
   | refine LeO.bind ?_ (fun _ => ?_)
set_option maxHeartbeats 8000000 in
set_option maxRecDepth 100000 in
theorem plane_Pixel.calls (k : Nat) (a0_0 : Int) (a0_1 : Int) (a0_2 : Int) (A0_3 : Option Addr) (c0_3 : Nat) (l0_3 : List Int) (a1_0 : Int) (a1_1 : Int) (a2 : Int) (a3 : Int) (r : Int) (w : World) (hr0_3 : Kd.C (Kd.int .i64) w A0_3 l0_3.length l0_3) (hc0_3 : l0_3.length ≤ c0_3) (h : plane_Pixel.f k a0_0 a0_1 a0_2 l0_3 a1_0 a1_1 a2 a3 = some r) :
  Calls Try.prog 44 #[.agg #[.int .i64 a0_0, .int .i64 a0_1, .int .i64 a0_2, .slice A0_3 l0_3.length c0_3], .agg #[.int .i64 a1_0, .int .i64 a1_1], .int .i64 a2, .int .i64 a3] w fun e w' => e = .returned (.int .i64 r) ∧ Below w.heap.size w w' := by
 have hu26 := Try.underlying26; have hu45 := Try.underlying45; have HR0_3 := am_ hr0_3; have HC0_3 := am_ hc0_3; clear hr0_3 hc0_3; have HB := am_ (Below.refl w.heap.size w); have H : ((border_Index.f k a2 a0_0 a1_0).bind fun bt202 => ((border_Index.f k a3 a0_1 a1_0).bind fun bt204 => (if bt202.2 = true then (if bt204.2 = true then (if 0 ≤ (wrap64 ((wrap64 (bt204.1 * a0_0)) + bt202.1)) then (if (wrap64 ((wrap64 (bt204.1 * a0_0)) + bt202.1)) < (l0_3.length : Int) then (some (rd l0_3 (wrap64 ((wrap64 (bt204.1 * a0_0)) + bt202.1)))) else (none)) else (none)) else (some a1_1)) else (some a1_1)))) = some r := h; clear h; replace H := Option.bind_eq_some_iff.mp H; obtain ⟨⟨t202, t203⟩, A50, H⟩ := H; replace H : ((border_Index.f k a3 a0_1 a1_0).bind fun bt204 => (if t203 = true then (if bt204.2 = true then (if 0 ≤ (wrap64 ((wrap64 (bt204.1 * a0_0)) + t202)) then (if (wrap64 ((wrap64 (bt204.1 * a0_0)) + t202)) < (l0_3.length : Int) then (some (rd l0_3 (wrap64 ((wrap64 (bt204.1 * a0_0)) + t202)))) else (none)) else (none)) else (some a1_1)) else (some a1_1))) = some r := H; have A5 := am_ A50; clear A50; replace H := Option.bind_eq_some_iff.mp H; obtain ⟨⟨t204, t205⟩, A60, H⟩ := H; replace H : (if t203 = true then (if t205 = true then (if 0 ≤ (wrap64 ((wrap64 (t204 * a0_0)) + t202)) then (if (wrap64 ((wrap64 (t204 * a0_0)) + t202)) < (l0_3.length : Int) then (some (rd l0_3 (wrap64 ((wrap64 (t204 * a0_0)) + t202)))) else (none)) else (none)) else (some a1_1)) else (some a1_1)) = some r := H; have A6 := am_ A60; clear A60
 by_cases c7 : t203 = true
 ·subst c7
  have H1 : (if t205 = true then (if 0 ≤ (wrap64 ((wrap64 (t204 * a0_0)) + t202)) then (if (wrap64 ((wrap64 (t204 * a0_0)) + t202)) < (l0_3.length : Int) then (some (rd l0_3 (wrap64 ((wrap64 (t204 * a0_0)) + t202)))) else (none)) else (none)) else (some a1_1)) = some r := by rw [if_pos rfl] at H; exact H
  clear H; have H := H1; clear H1
  by_cases c8 : t205 = true
  ·subst c8
   have H1 : (if 0 ≤ (wrap64 ((wrap64 (t204 * a0_0)) + t202)) then (if (wrap64 ((wrap64 (t204 * a0_0)) + t202)) < (l0_3.length : Int) then (some (rd l0_3 (wrap64 ((wrap64 (t204 * a0_0)) + t202)))) else (none)) else (none)) = some r := by rw [if_pos rfl] at H; exact H
   clear H; have H := H1; clear H1; obtain ⟨ji9, hji9⟩ : ∃ j_ : Int, (wrap64 ((wrap64 (t204 * a0_0)) + t202)) = j_ := ⟨_, rfl⟩; replace H : (if 0 ≤ (ji9) then (if (ji9) < (l0_3.length : Int) then (some (rd l0_3 (ji9))) else (none)) else (none)) = some r := by first | (rw [hji9] at H; exact H) | (simp only [hji9] at H ⊢; exact H)
   (try rw [hji9] at A5); (try rw [hji9] at A6); have hji9w : (IntKind.i64.wrap ((wrap64 (t204 * a0_0)) + t202)) = ji9 := (i64_w _).trans hji9
   by_cases c10 : 0 ≤ (ji9)
   ·rw [if_pos c10] at H
    have c10b0 : decide (0 ≤ (ji9)) = true := decide_eq_true c10; clear c10
    by_cases c11 : (ji9) < (l0_3.length : Int)
    ·rw [if_pos c11] at H
     have c11b0 : decide ((ji9) < (l0_3.length : Int)) = true := decide_eq_true c11; clear c11; obtain rfl := Option.some.inj H
     go_enter Try.func44, Try.ntmps44
     go_wp2_with (first | ((with_reducible refine gate_dst (N := 4) rfl ?_); refine box_event ?hg (N := 4) ?hd (cs := #[.int .i64 a0_0, .int .i64 a0_1, .int .i64 a0_2, .slice A0_3 l0_3.length c0_3]) (t := 26) ?hr ?_; (case hd => rfl); (case hg => rfl); (case hr => first | (go_simp; done) | (go_simp; rfl)); intro gb200 hg w12 hbox hb; have n0_ := am_ (below_step q153_ hb); have n1_ := am_ (hbox); have n2_ := am_ ((q123_ : w.heap.size ≤ gb200)); have n3_ := am_ ((q123_ : w.heap.size ≤ gb200)); clear HB; have HB := n0_; have BK200 := n1_; have GW200 := n2_; have GE200 := n3_; clear n0_ n1_ n2_ n3_; clear hb hbox hg) | ((with_reducible refine gate_dst (N := 5) rfl ?_); refine box_event ?hg (N := 5) ?hd (cs := #[.int .i64 a1_0, .int .i64 a1_1]) (t := 45) ?hr ?_; (case hd => rfl); (case hg => rfl); (case hr => first | (go_simp; done) | (go_simp; rfl)); intro gb201 hg w13 hbox hb; have n0_ := am_ (blk_below (g := gb200) (o := .cells #[.int .i64 a0_0, .int .i64 a0_1, .int .i64 a0_2, .slice A0_3 l0_3.length c0_3] 26 (0, 0)) q173_ hb); have n1_ := am_ (below_step q134_ hb); have n2_ := am_ (hbox); have n3_ := am_ ((q94_ : w.heap.size ≤ gb201)); have n4_ := am_ ((q94_ : w.heap.size ≤ gb201)); have n5_ := am_ ((q21_ : gb200 ≠ gb201)); have n6_ := am_ ((q22_ : gb201 ≠ gb200)); clear BK200 HB; have BK200 := n0_; have HB := n1_; have BK201 := n2_; have GW201 := n3_; have GE201 := n4_; have NB200_201 := n5_; have NB201_200 := n6_; clear n0_ n1_ n2_ n3_ n4_ n5_ n6_; clear hb hbox hg; have hnb14 := NB200_201.out; have hnc14 := NB201_200.out; have hcz15_0 := bc0_ BK200.out; have hcz15_1 := bc1_ BK200.out; have hcz15_2 := bc2_ BK200.out; have hcz15_3 := bc3_ BK200.out; have hfz15_0 := blk_frozen BK200.out 0; have hfz15_1 := blk_frozen BK200.out 1; have hfz15_2 := blk_frozen BK200.out 2; have hfz15_3 := blk_frozen BK200.out 3; have hcz16_0 := bc0_ BK201.out; have hcz16_1 := bc1_ BK201.out; have hfz16_0 := blk_frozen BK201.out 0; have hfz16_1 := blk_frozen BK201.out 1) | ((with_reducible refine gate_callee (f := 54) rfl ?_); refine goesL_ (some 19) rfl rfl Try.func54 (by kernel_rfl) rfl #[.int .i64 a2, .int .i64 a0_0, .int .i64 a1_0] rfl q150_ ?_; (with_reducible refine (border_Index.calls k a2 a0_0 a1_0 t202 true _ A5.out).mono ?_); rintro e w17 ⟨rfl, hb⟩; refine ⟨_, rfl, ?_⟩; have n0_ := am_ (blk_below (g := gb200) (o := .cells #[.int .i64 a0_0, .int .i64 a0_1, .int .i64 a0_2, .slice A0_3 l0_3.length c0_3] 26 (0, 0)) q173_ hb); have n1_ := am_ (blk_below (g := gb201) (o := .cells #[.int .i64 a1_0, .int .i64 a1_1] 45 (0, 0)) q174_ hb); have n2_ := am_ (below_step q103_ hb); clear BK200 BK201 HB; have BK200 := n0_; have BK201 := n1_; have HB := n2_; clear n0_ n1_ n2_; (try clear hb); (try clear hb2); (try clear hk); (try clear hi); have hcz18_0 := bc0_ BK200.out; have hcz18_1 := bc1_ BK200.out; have hcz18_2 := bc2_ BK200.out; have hcz18_3 := bc3_ BK200.out; have hfz18_0 := blk_frozen BK200.out 0; have hfz18_1 := blk_frozen BK200.out 1; have hfz18_2 := blk_frozen BK200.out 2; have hfz18_3 := blk_frozen BK200.out 3; have hcz19_0 := bc0_ BK201.out; have hcz19_1 := bc1_ BK201.out; have hfz19_0 := blk_frozen BK201.out 0; have hfz19_1 := blk_frozen BK201.out 1) | ((with_reducible refine gate_callee (f := 54) rfl ?_); refine goesL_ (some 28) rfl rfl Try.func54 (by kernel_rfl) rfl #[.int .i64 a3, .int .i64 a0_1, .int .i64 a1_0] rfl q150_ ?_; (with_reducible refine (border_Index.calls k a3 a0_1 a1_0 t204 true _ A6.out).mono ?_); rintro e w20 ⟨rfl, hb⟩; refine ⟨_, rfl, ?_⟩; have n0_ := am_ (blk_below (g := gb200) (o := .cells #[.int .i64 a0_0, .int .i64 a0_1, .int .i64 a0_2, .slice A0_3 l0_3.length c0_3] 26 (0, 0)) q173_ hb); have n1_ := am_ (blk_below (g := gb201) (o := .cells #[.int .i64 a1_0, .int .i64 a1_1] 45 (0, 0)) q174_ hb); have n2_ := am_ (below_step q103_ hb); clear BK200 BK201 HB; have BK200 := n0_; have BK201 := n1_; have HB := n2_; clear n0_ n1_ n2_; (try clear hb); (try clear hb2); (try clear hk); (try clear hi); have hcz21_0 := bc0_ BK200.out; have hcz21_1 := bc1_ BK200.out; have hcz21_2 := bc2_ BK200.out; have hcz21_3 := bc3_ BK200.out; have hfz21_0 := blk_frozen BK200.out 0; have hfz21_1 := blk_frozen BK200.out 1; have hfz21_2 := blk_frozen BK200.out 2; have hfz21_3 := blk_frozen BK200.out 3; have p206 : 0 ≤ ((ji9) : Int) := of_decide_eq_true q226_; have q206 : (ji9) < (l0_3.length : Int) := of_decide_eq_true q226_; obtain ⟨ad206, e206, hx206_0⟩ := Kd.at_int HR0_3.out (ji9) p206 q206; cases e206; replace hx206_0 := (HB.out.cell (World.block_lt_of_cell? w _ hx206_0)).trans hx206_0; replace p206 := eq_true p206; replace q206 := eq_true q206))
     go_ret
     exact ⟨by first | rfl | (simp [errW_none, errW_some] <;> rfl) | (simp only [← hji9]; first | rfl | (simp [errW_none, errW_some] <;> rfl)) | (simp [*, errW_none, errW_some] <;> rfl), q103_⟩
    ·rw [if_neg c11] at H
     exact absurd H (by simp)
   ·rw [if_neg c10] at H
    exact absurd H (by simp)
  ·replace c8 := Bool.eq_false_iff.mpr c8
   subst c8; have H1 : (some a1_1) = some r := by rw [if_neg (show ¬ (false = true) by decide)] at H; exact H
   clear H; have H := H1; clear H1; obtain rfl := Option.some.inj H
   go_enter Try.func44, Try.ntmps44
   go_wp2_with (first | ((with_reducible refine gate_dst (N := 4) rfl ?_); refine box_event ?hg (N := 4) ?hd (cs := #[.int .i64 a0_0, .int .i64 a0_1, .int .i64 a0_2, .slice A0_3 l0_3.length c0_3]) (t := 26) ?hr ?_; (case hd => rfl); (case hg => rfl); (case hr => first | (go_simp; done) | (go_simp; rfl)); intro gb200 hg w22 hbox hb; have n0_ := am_ (below_step q153_ hb); have n1_ := am_ (hbox); have n2_ := am_ ((q123_ : w.heap.size ≤ gb200)); have n3_ := am_ ((q123_ : w.heap.size ≤ gb200)); clear HB; have HB := n0_; have BK200 := n1_; have GW200 := n2_; have GE200 := n3_; clear n0_ n1_ n2_ n3_; clear hb hbox hg) | ((with_reducible refine gate_dst (N := 5) rfl ?_); refine box_event ?hg (N := 5) ?hd (cs := #[.int .i64 a1_0, .int .i64 a1_1]) (t := 45) ?hr ?_; (case hd => rfl); (case hg => rfl); (case hr => first | (go_simp; done) | (go_simp; rfl)); intro gb201 hg w23 hbox hb; have n0_ := am_ (blk_below (g := gb200) (o := .cells #[.int .i64 a0_0, .int .i64 a0_1, .int .i64 a0_2, .slice A0_3 l0_3.length c0_3] 26 (0, 0)) q173_ hb); have n1_ := am_ (below_step q134_ hb); have n2_ := am_ (hbox); have n3_ := am_ ((q94_ : w.heap.size ≤ gb201)); have n4_ := am_ ((q94_ : w.heap.size ≤ gb201)); have n5_ := am_ ((q21_ : gb200 ≠ gb201)); have n6_ := am_ ((q22_ : gb201 ≠ gb200)); clear BK200 HB; have BK200 := n0_; have HB := n1_; have BK201 := n2_; have GW201 := n3_; have GE201 := n4_; have NB200_201 := n5_; have NB201_200 := n6_; clear n0_ n1_ n2_ n3_ n4_ n5_ n6_; clear hb hbox hg; have hnb24 := NB200_201.out; have hnc24 := NB201_200.out; have hcz25_0 := bc0_ BK200.out; have hcz25_1 := bc1_ BK200.out; have hcz25_2 := bc2_ BK200.out; have hcz25_3 := bc3_ BK200.out; have hfz25_0 := blk_frozen BK200.out 0; have hfz25_1 := blk_frozen BK200.out 1; have hfz25_2 := blk_frozen BK200.out 2; have hfz25_3 := blk_frozen BK200.out 3; have hcz26_0 := bc0_ BK201.out; have hcz26_1 := bc1_ BK201.out; have hfz26_0 := blk_frozen BK201.out 0; have hfz26_1 := blk_frozen BK201.out 1) | ((with_reducible refine gate_callee (f := 54) rfl ?_); refine goesL_ (some 19) rfl rfl Try.func54 (by kernel_rfl) rfl #[.int .i64 a2, .int .i64 a0_0, .int .i64 a1_0] rfl q150_ ?_; (with_reducible refine (border_Index.calls k a2 a0_0 a1_0 t202 true _ A5.out).mono ?_); rintro e w27 ⟨rfl, hb⟩; refine ⟨_, rfl, ?_⟩; have n0_ := am_ (blk_below (g := gb200) (o := .cells #[.int .i64 a0_0, .int .i64 a0_1, .int .i64 a0_2, .slice A0_3 l0_3.length c0_3] 26 (0, 0)) q173_ hb); have n1_ := am_ (blk_below (g := gb201) (o := .cells #[.int .i64 a1_0, .int .i64 a1_1] 45 (0, 0)) q174_ hb); have n2_ := am_ (below_step q103_ hb); clear BK200 BK201 HB; have BK200 := n0_; have BK201 := n1_; have HB := n2_; clear n0_ n1_ n2_; (try clear hb); (try clear hb2); (try clear hk); (try clear hi); have hcz28_0 := bc0_ BK200.out; have hcz28_1 := bc1_ BK200.out; have hcz28_2 := bc2_ BK200.out; have hcz28_3 := bc3_ BK200.out; have hfz28_0 := blk_frozen BK200.out 0; have hfz28_1 := blk_frozen BK200.out 1; have hfz28_2 := blk_frozen BK200.out 2; have hfz28_3 := blk_frozen BK200.out 3; have hcz29_0 := bc0_ BK201.out; have hcz29_1 := bc1_ BK201.out; have hfz29_0 := blk_frozen BK201.out 0; have hfz29_1 := blk_frozen BK201.out 1) | ((with_reducible refine gate_callee (f := 54) rfl ?_); refine goesL_ (some 28) rfl rfl Try.func54 (by kernel_rfl) rfl #[.int .i64 a3, .int .i64 a0_1, .int .i64 a1_0] rfl q150_ ?_; (with_reducible refine (border_Index.calls k a3 a0_1 a1_0 t204 false _ A6.out).mono ?_); rintro e w30 ⟨rfl, hb⟩; refine ⟨_, rfl, ?_⟩; have n0_ := am_ (blk_below (g := gb200) (o := .cells #[.int .i64 a0_0, .int .i64 a0_1, .int .i64 a0_2, .slice A0_3 l0_3.length c0_3] 26 (0, 0)) q173_ hb); have n1_ := am_ (blk_below (g := gb201) (o := .cells #[.int .i64 a1_0, .int .i64 a1_1] 45 (0, 0)) q174_ hb); have n2_ := am_ (below_step q103_ hb); clear BK200 BK201 HB; have BK200 := n0_; have BK201 := n1_; have HB := n2_; clear n0_ n1_ n2_; (try clear hb); (try clear hb2); (try clear hk); (try clear hi); have hcz31_0 := bc0_ BK201.out; have hcz31_1 := bc1_ BK201.out; have hfz31_0 := blk_frozen BK201.out 0; have hfz31_1 := blk_frozen BK201.out 1))
   go_ret
   exact ⟨q224_, q103_⟩
 ·replace c7 := Bool.eq_false_iff.mpr c7
  subst c7; have H1 : (some a1_1) = some r := by rw [if_neg (show ¬ (false = true) by decide)] at H; exact H
  clear H; have H := H1; clear H1; obtain rfl := Option.some.inj H
  go_enter Try.func44, Try.ntmps44
  go_wp2_with (first | ((with_reducible refine gate_dst (N := 4) rfl ?_); refine box_event ?hg (N := 4) ?hd (cs := #[.int .i64 a0_0, .int .i64 a0_1, .int .i64 a0_2, .slice A0_3 l0_3.length c0_3]) (t := 26) ?hr ?_; (case hd => rfl); (case hg => rfl); (case hr => first | (go_simp; done) | (go_simp; rfl)); intro gb200 hg w32 hbox hb; have n0_ := am_ (below_step q153_ hb); have n1_ := am_ (hbox); have n2_ := am_ ((q123_ : w.heap.size ≤ gb200)); have n3_ := am_ ((q123_ : w.heap.size ≤ gb200)); clear HB; have HB := n0_; have BK200 := n1_; have GW200 := n2_; have GE200 := n3_; clear n0_ n1_ n2_ n3_; clear hb hbox hg) | ((with_reducible refine gate_dst (N := 5) rfl ?_); refine box_event ?hg (N := 5) ?hd (cs := #[.int .i64 a1_0, .int .i64 a1_1]) (t := 45) ?hr ?_; (case hd => rfl); (case hg => rfl); (case hr => first | (go_simp; done) | (go_simp; rfl)); intro gb201 hg w33 hbox hb; have n0_ := am_ (blk_below (g := gb200) (o := .cells #[.int .i64 a0_0, .int .i64 a0_1, .int .i64 a0_2, .slice A0_3 l0_3.length c0_3] 26 (0, 0)) q173_ hb); have n1_ := am_ (below_step q134_ hb); have n2_ := am_ (hbox); have n3_ := am_ ((q94_ : w.heap.size ≤ gb201)); have n4_ := am_ ((q94_ : w.heap.size ≤ gb201)); have n5_ := am_ ((q21_ : gb200 ≠ gb201)); have n6_ := am_ ((q22_ : gb201 ≠ gb200)); clear BK200 HB; have BK200 := n0_; have HB := n1_; have BK201 := n2_; have GW201 := n3_; have GE201 := n4_; have NB200_201 := n5_; have NB201_200 := n6_; clear n0_ n1_ n2_ n3_ n4_ n5_ n6_; clear hb hbox hg; have hnb34 := NB200_201.out; have hnc34 := NB201_200.out; have hcz35_0 := bc0_ BK200.out; have hcz35_1 := bc1_ BK200.out; have hcz35_2 := bc2_ BK200.out; have hcz35_3 := bc3_ BK200.out; have hfz35_0 := blk_frozen BK200.out 0; have hfz35_1 := blk_frozen BK200.out 1; have hfz35_2 := blk_frozen BK200.out 2; have hfz35_3 := blk_frozen BK200.out 3; have hcz36_0 := bc0_ BK201.out; have hcz36_1 := bc1_ BK201.out; have hfz36_0 := blk_frozen BK201.out 0; have hfz36_1 := blk_frozen BK201.out 1) | ((with_reducible refine gate_callee (f := 54) rfl ?_); refine goesL_ (some 19) rfl rfl Try.func54 (by kernel_rfl) rfl #[.int .i64 a2, .int .i64 a0_0, .int .i64 a1_0] rfl q150_ ?_; (with_reducible refine (border_Index.calls k a2 a0_0 a1_0 t202 false _ A5.out).mono ?_); rintro e w37 ⟨rfl, hb⟩; refine ⟨_, rfl, ?_⟩; have n0_ := am_ (blk_below (g := gb200) (o := .cells #[.int .i64 a0_0, .int .i64 a0_1, .int .i64 a0_2, .slice A0_3 l0_3.length c0_3] 26 (0, 0)) q173_ hb); have n1_ := am_ (blk_below (g := gb201) (o := .cells #[.int .i64 a1_0, .int .i64 a1_1] 45 (0, 0)) q174_ hb); have n2_ := am_ (below_step q103_ hb); clear BK200 BK201 HB; have BK200 := n0_; have BK201 := n1_; have HB := n2_; clear n0_ n1_ n2_; (try clear hb); (try clear hb2); (try clear hk); (try clear hi); have hcz38_0 := bc0_ BK200.out; have hcz38_1 := bc1_ BK200.out; have hcz38_2 := bc2_ BK200.out; have hcz38_3 := bc3_ BK200.out; have hfz38_0 := blk_frozen BK200.out 0; have hfz38_1 := blk_frozen BK200.out 1; have hfz38_2 := blk_frozen BK200.out 2; have hfz38_3 := blk_frozen BK200.out 3; have hcz39_0 := bc0_ BK201.out; have hcz39_1 := bc1_ BK201.out; have hfz39_0 := blk_frozen BK201.out 0; have hfz39_1 := blk_frozen BK201.out 1) | ((with_reducible refine gate_callee (f := 54) rfl ?_); refine goesL_ (some 28) rfl rfl Try.func54 (by kernel_rfl) rfl #[.int .i64 a3, .int .i64 a0_1, .int .i64 a1_0] rfl q150_ ?_; (with_reducible refine (border_Index.calls k a3 a0_1 a1_0 t204 t205 _ A6.out).mono ?_); rintro e w40 ⟨rfl, hb⟩; refine ⟨_, rfl, ?_⟩; have n0_ := am_ (blk_below (g := gb200) (o := .cells #[.int .i64 a0_0, .int .i64 a0_1, .int .i64 a0_2, .slice A0_3 l0_3.length c0_3] 26 (0, 0)) q173_ hb); have n1_ := am_ (blk_below (g := gb201) (o := .cells #[.int .i64 a1_0, .int .i64 a1_1] 45 (0, 0)) q174_ hb); have n2_ := am_ (below_step q103_ hb); clear BK200 BK201 HB; have BK200 := n0_; have BK201 := n1_; have HB := n2_; clear n0_ n1_ n2_; (try clear hb); (try clear hb2); (try clear hk); (try clear hi); have hcz41_0 := bc0_ BK201.out; have hcz41_1 := bc1_ BK201.out; have hfz41_0 := blk_frozen BK201.out 0; have hfz41_1 := blk_frozen BK201.out 1))
  go_ret
  exact ⟨q224_, q103_⟩


def plane_At.f (k : Nat) (a0_0 : Int) (a0_1 : Int) (a0_2 : Int) (l0_3 : List Int) (a1_0 : Int) (a1_1 : Int) (a2 : Int) (a3 : Int) : Option (Int) := (plane_Valid.f k a0_0 a0_1 a0_2 l0_3).bind fun t209 => (if t209 = true then ((border_Valid.f k a1_0 a1_1 a0_2).bind fun t210 => (if t210 = true then ((plane_Pixel.f k a0_0 a0_1 a0_2 l0_3 a1_0 a1_1 a2 a3).bind fun t211 => (some t211)) else (some 0))) else (some 0))
theorem plane_At.mono : ∀ a0 a1 a2 a3 a4 a5 a6 a7 k, LeO (plane_At.f k a0 a1 a2 a3 a4 a5 a6 a7) (plane_At.f (k + 1) a0 a1 a2 a3 a4 a5 a6 a7) := by
 intro a0 a1 a2 a3 a4 a5 a6 a7 k; unfold plane_At.f
 repeat' first
   | (with_reducible exact border_Valid.mono _ _ _ _)
   | (with_reducible exact plane_Pixel.mono _ _ _ _ _ _ _ _ _)
   | (with_reducible exact plane_Valid.mono _ _ _ _ _)
   | (with_reducible exact LeO.refl _)
   | (with_reducible exact LeO.none _)
   | (with_reducible refine LeO.ite ?_ ?_)
   | (with_reducible refine LeO.bind ?_ (fun _ => ?_))
   | exact border_Valid.mono _ _ _ _
   | exact plane_Pixel.mono _ _ _ _ _ _ _ _ _
   | exact plane_Valid.mono _ _ _ _ _
   | exact LeO.none _
   | refine LeO.ite ?_ ?_
   | refine LeO.bind ?_ (fun _ => ?_)
set_option maxHeartbeats 8000000 in
set_option maxRecDepth 100000 in
theorem plane_At.calls (k : Nat) (a0_0 : Int) (a0_1 : Int) (a0_2 : Int) (A0_3 : Option Addr) (c0_3 : Nat) (l0_3 : List Int) (a1_0 : Int) (a1_1 : Int) (a2 : Int) (a3 : Int) (r : Int) (w : World) (hr0_3 : Kd.C (Kd.int .i64) w A0_3 l0_3.length l0_3) (hc0_3 : l0_3.length ≤ c0_3) (h : plane_At.f k a0_0 a0_1 a0_2 l0_3 a1_0 a1_1 a2 a3 = some r) :
  Calls Try.prog 26 #[.agg #[.int .i64 a0_0, .int .i64 a0_1, .int .i64 a0_2, .slice A0_3 l0_3.length c0_3], .agg #[.int .i64 a1_0, .int .i64 a1_1], .int .i64 a2, .int .i64 a3] w fun e w' => e = .returned (.int .i64 r) ∧ Below w.heap.size w w' := by
 have hu26 := Try.underlying26; have hu45 := Try.underlying45; have HR0_3 := am_ hr0_3; have HC0_3 := am_ hc0_3; clear hr0_3 hc0_3; have HB := am_ (Below.refl w.heap.size w); have H : ((plane_Valid.f k a0_0 a0_1 a0_2 l0_3).bind fun t209 => (if t209 = true then ((border_Valid.f k a1_0 a1_1 a0_2).bind fun t210 => (if t210 = true then ((plane_Pixel.f k a0_0 a0_1 a0_2 l0_3 a1_0 a1_1 a2 a3).bind fun t211 => (some t211)) else (some 0))) else (some 0))) = some r := h; clear h; replace H := Option.bind_eq_some_iff.mp H; obtain ⟨t209, A50, H⟩ := H; replace H : (if t209 = true then ((border_Valid.f k a1_0 a1_1 a0_2).bind fun t210 => (if t210 = true then ((plane_Pixel.f k a0_0 a0_1 a0_2 l0_3 a1_0 a1_1 a2 a3).bind fun t211 => (some t211)) else (some 0))) else (some 0)) = some r := H; have A5 := am_ A50; clear A50
 by_cases c6 : t209 = true
 ·subst c6
  have H1 : ((border_Valid.f k a1_0 a1_1 a0_2).bind fun t210 => (if t210 = true then ((plane_Pixel.f k a0_0 a0_1 a0_2 l0_3 a1_0 a1_1 a2 a3).bind fun t211 => (some t211)) else (some 0))) = some r := by rw [if_pos rfl] at H; exact H
  clear H; have H := H1; clear H1; replace H := Option.bind_eq_some_iff.mp H; obtain ⟨t210, A70, H⟩ := H; replace H : (if t210 = true then ((plane_Pixel.f k a0_0 a0_1 a0_2 l0_3 a1_0 a1_1 a2 a3).bind fun t211 => (some t211)) else (some 0)) = some r := H; have A7 := am_ A70; clear A70
  by_cases c8 : t210 = true
  ·subst c8
   have H1 : ((plane_Pixel.f k a0_0 a0_1 a0_2 l0_3 a1_0 a1_1 a2 a3).bind fun t211 => (some t211)) = some r := by rw [if_pos rfl] at H; exact H
   clear H; have H := H1; clear H1; replace H := Option.bind_eq_some_iff.mp H; obtain ⟨t211, A90, H⟩ := H; replace H : (some t211) = some r := H; have A9 := am_ A90; clear A90; obtain rfl := Option.some.inj H
   go_enter Try.func26, Try.ntmps26
   go_wp2_with (first | ((with_reducible refine gate_dst (N := 4) rfl ?_); refine box_event ?hg (N := 4) ?hd (cs := #[.int .i64 a0_0, .int .i64 a0_1, .int .i64 a0_2, .slice A0_3 l0_3.length c0_3]) (t := 26) ?hr ?_; (case hd => rfl); (case hg => rfl); (case hr => first | (go_simp; done) | (go_simp; rfl)); intro gb207 hg w10 hbox hb; have n0_ := am_ (below_step q153_ hb); have n1_ := am_ (hbox); have n2_ := am_ ((q123_ : w.heap.size ≤ gb207)); have n3_ := am_ ((q123_ : w.heap.size ≤ gb207)); clear HB; have HB := n0_; have BK207 := n1_; have GW207 := n2_; have GE207 := n3_; clear n0_ n1_ n2_ n3_; clear hb hbox hg) | ((with_reducible refine gate_dst (N := 5) rfl ?_); refine box_event ?hg (N := 5) ?hd (cs := #[.int .i64 a1_0, .int .i64 a1_1]) (t := 45) ?hr ?_; (case hd => rfl); (case hg => rfl); (case hr => first | (go_simp; done) | (go_simp; rfl)); intro gb208 hg w11 hbox hb; have n0_ := am_ (blk_below (g := gb207) (o := .cells #[.int .i64 a0_0, .int .i64 a0_1, .int .i64 a0_2, .slice A0_3 l0_3.length c0_3] 26 (0, 0)) q175_ hb); have n1_ := am_ (below_step q135_ hb); have n2_ := am_ (hbox); have n3_ := am_ ((q95_ : w.heap.size ≤ gb208)); have n4_ := am_ ((q95_ : w.heap.size ≤ gb208)); have n5_ := am_ ((q23_ : gb207 ≠ gb208)); have n6_ := am_ ((q24_ : gb208 ≠ gb207)); clear BK207 HB; have BK207 := n0_; have HB := n1_; have BK208 := n2_; have GW208 := n3_; have GE208 := n4_; have NB207_208 := n5_; have NB208_207 := n6_; clear n0_ n1_ n2_ n3_ n4_ n5_ n6_; clear hb hbox hg; have hnb12 := NB207_208.out; have hnc12 := NB208_207.out; have hcz13_0 := bc0_ BK207.out; have hcz13_1 := bc1_ BK207.out; have hcz13_2 := bc2_ BK207.out; have hcz13_3 := bc3_ BK207.out; have hfz13_0 := blk_frozen BK207.out 0; have hfz13_1 := blk_frozen BK207.out 1; have hfz13_2 := blk_frozen BK207.out 2; have hfz13_3 := blk_frozen BK207.out 3) | ((with_reducible refine gate_callee (f := 17) rfl ?_); refine goesL_ (some 10) rfl rfl Try.func17 (by kernel_rfl) rfl #[.agg #[.int .i64 a0_0, .int .i64 a0_1, .int .i64 a0_2, .slice A0_3 l0_3.length c0_3]] rfl q150_ ?_; (with_reducible refine (plane_Valid.calls k a0_0 a0_1 a0_2 _ _ l0_3 true _ ?side1 ?side2 A5.out).mono ?_); (case side1 => repeat (first | exact (Kd.C_below HR0_3.out HB.out) | (with_reducible refine Kd.C_alloc ?_ _) | (with_reducible refine Kd.C_drewN ?_ _) | (with_reducible refine Kd.C_drew ?_))); (case side2 => exact HC0_3.out); rintro e w14 ⟨rfl, hb⟩; refine ⟨_, rfl, ?_⟩; have n0_ := am_ (blk_below (g := gb207) (o := .cells #[.int .i64 a0_0, .int .i64 a0_1, .int .i64 a0_2, .slice A0_3 l0_3.length c0_3] 26 (0, 0)) q175_ hb); have n1_ := am_ (blk_below (g := gb208) (o := .cells #[.int .i64 a1_0, .int .i64 a1_1] 45 (0, 0)) q176_ hb); have n2_ := am_ (below_step q104_ hb); clear BK207 BK208 HB; have BK207 := n0_; have BK208 := n1_; have HB := n2_; clear n0_ n1_ n2_; (try clear hb); (try clear hb2); (try clear hk); (try clear hi); have hcz15_0 := bc0_ BK208.out; have hcz15_1 := bc1_ BK208.out; have hfz15_0 := blk_frozen BK208.out 0; have hfz15_1 := blk_frozen BK208.out 1; have hcz16_0 := bc0_ BK207.out; have hcz16_1 := bc1_ BK207.out; have hcz16_2 := bc2_ BK207.out; have hcz16_3 := bc3_ BK207.out; have hfz16_0 := blk_frozen BK207.out 0; have hfz16_1 := blk_frozen BK207.out 1; have hfz16_2 := blk_frozen BK207.out 2; have hfz16_3 := blk_frozen BK207.out 3) | (go_at_call 43; (with_reducible refine (border_Valid.calls k a1_0 a1_1 a0_2 true _ A7.out).mono ?_); rintro e w17 ⟨rfl, hb⟩; have n0_ := am_ (blk_below (g := gb207) (o := .cells #[.int .i64 a0_0, .int .i64 a0_1, .int .i64 a0_2, .slice A0_3 l0_3.length c0_3] 26 (0, 0)) q175_ hb); have n1_ := am_ (blk_below (g := gb208) (o := .cells #[.int .i64 a1_0, .int .i64 a1_1] 45 (0, 0)) q176_ hb); have n2_ := am_ (below_step q104_ hb); clear BK207 BK208 HB; have BK207 := n0_; have BK208 := n1_; have HB := n2_; clear n0_ n1_ n2_; (try clear hb); (try clear hb2); (try clear hk); (try clear hi); have hcz18_0 := bc0_ BK207.out; have hcz18_1 := bc1_ BK207.out; have hcz18_2 := bc2_ BK207.out; have hcz18_3 := bc3_ BK207.out; have hfz18_0 := blk_frozen BK207.out 0; have hfz18_1 := blk_frozen BK207.out 1; have hfz18_2 := blk_frozen BK207.out 2; have hfz18_3 := blk_frozen BK207.out 3; have hcz19_0 := bc0_ BK208.out; have hcz19_1 := bc1_ BK208.out; have hfz19_0 := blk_frozen BK208.out 0; have hfz19_1 := blk_frozen BK208.out 1) | ((with_reducible refine gate_callee (f := 44) rfl ?_); refine goesL_ (some 23) rfl rfl Try.func44 (by kernel_rfl) rfl #[.agg #[.int .i64 a0_0, .int .i64 a0_1, .int .i64 a0_2, .slice A0_3 l0_3.length c0_3], .agg #[.int .i64 a1_0, .int .i64 a1_1], .int .i64 a2, .int .i64 a3] rfl q150_ ?_; (with_reducible refine (plane_Pixel.calls k a0_0 a0_1 a0_2 _ _ l0_3 a1_0 a1_1 a2 a3 t211 _ ?side1 ?side2 A9.out).mono ?_); (case side1 => repeat (first | exact (Kd.C_below HR0_3.out HB.out) | (with_reducible refine Kd.C_alloc ?_ _) | (with_reducible refine Kd.C_drewN ?_ _) | (with_reducible refine Kd.C_drew ?_))); (case side2 => exact HC0_3.out); rintro e w20 ⟨rfl, hb⟩; refine ⟨_, rfl, ?_⟩; have n0_ := am_ (blk_below (g := gb207) (o := .cells #[.int .i64 a0_0, .int .i64 a0_1, .int .i64 a0_2, .slice A0_3 l0_3.length c0_3] 26 (0, 0)) q175_ hb); have n1_ := am_ (blk_below (g := gb208) (o := .cells #[.int .i64 a1_0, .int .i64 a1_1] 45 (0, 0)) q176_ hb); have n2_ := am_ (below_step q104_ hb); clear BK207 BK208 HB; have BK207 := n0_; have BK208 := n1_; have HB := n2_; clear n0_ n1_ n2_; (try clear hb); (try clear hb2); (try clear hk); (try clear hi)))
   go_ret
   exact ⟨q224_, q104_⟩
  ·replace c8 := Bool.eq_false_iff.mpr c8
   subst c8; have H1 : (some 0) = some r := by rw [if_neg (show ¬ (false = true) by decide)] at H; exact H
   clear H; have H := H1; clear H1; obtain rfl := Option.some.inj H
   go_enter Try.func26, Try.ntmps26
   go_wp2_with (first | ((with_reducible refine gate_dst (N := 4) rfl ?_); refine box_event ?hg (N := 4) ?hd (cs := #[.int .i64 a0_0, .int .i64 a0_1, .int .i64 a0_2, .slice A0_3 l0_3.length c0_3]) (t := 26) ?hr ?_; (case hd => rfl); (case hg => rfl); (case hr => first | (go_simp; done) | (go_simp; rfl)); intro gb207 hg w21 hbox hb; have n0_ := am_ (below_step q153_ hb); have n1_ := am_ (hbox); have n2_ := am_ ((q123_ : w.heap.size ≤ gb207)); have n3_ := am_ ((q123_ : w.heap.size ≤ gb207)); clear HB; have HB := n0_; have BK207 := n1_; have GW207 := n2_; have GE207 := n3_; clear n0_ n1_ n2_ n3_; clear hb hbox hg) | ((with_reducible refine gate_dst (N := 5) rfl ?_); refine box_event ?hg (N := 5) ?hd (cs := #[.int .i64 a1_0, .int .i64 a1_1]) (t := 45) ?hr ?_; (case hd => rfl); (case hg => rfl); (case hr => first | (go_simp; done) | (go_simp; rfl)); intro gb208 hg w22 hbox hb; have n0_ := am_ (blk_below (g := gb207) (o := .cells #[.int .i64 a0_0, .int .i64 a0_1, .int .i64 a0_2, .slice A0_3 l0_3.length c0_3] 26 (0, 0)) q175_ hb); have n1_ := am_ (below_step q135_ hb); have n2_ := am_ (hbox); have n3_ := am_ ((q95_ : w.heap.size ≤ gb208)); have n4_ := am_ ((q95_ : w.heap.size ≤ gb208)); have n5_ := am_ ((q23_ : gb207 ≠ gb208)); have n6_ := am_ ((q24_ : gb208 ≠ gb207)); clear BK207 HB; have BK207 := n0_; have HB := n1_; have BK208 := n2_; have GW208 := n3_; have GE208 := n4_; have NB207_208 := n5_; have NB208_207 := n6_; clear n0_ n1_ n2_ n3_ n4_ n5_ n6_; clear hb hbox hg; have hnb23 := NB207_208.out; have hnc23 := NB208_207.out; have hcz24_0 := bc0_ BK207.out; have hcz24_1 := bc1_ BK207.out; have hcz24_2 := bc2_ BK207.out; have hcz24_3 := bc3_ BK207.out; have hfz24_0 := blk_frozen BK207.out 0; have hfz24_1 := blk_frozen BK207.out 1; have hfz24_2 := blk_frozen BK207.out 2; have hfz24_3 := blk_frozen BK207.out 3) | ((with_reducible refine gate_callee (f := 17) rfl ?_); refine goesL_ (some 10) rfl rfl Try.func17 (by kernel_rfl) rfl #[.agg #[.int .i64 a0_0, .int .i64 a0_1, .int .i64 a0_2, .slice A0_3 l0_3.length c0_3]] rfl q150_ ?_; (with_reducible refine (plane_Valid.calls k a0_0 a0_1 a0_2 _ _ l0_3 true _ ?side1 ?side2 A5.out).mono ?_); (case side1 => repeat (first | exact (Kd.C_below HR0_3.out HB.out) | (with_reducible refine Kd.C_alloc ?_ _) | (with_reducible refine Kd.C_drewN ?_ _) | (with_reducible refine Kd.C_drew ?_))); (case side2 => exact HC0_3.out); rintro e w25 ⟨rfl, hb⟩; refine ⟨_, rfl, ?_⟩; have n0_ := am_ (blk_below (g := gb207) (o := .cells #[.int .i64 a0_0, .int .i64 a0_1, .int .i64 a0_2, .slice A0_3 l0_3.length c0_3] 26 (0, 0)) q175_ hb); have n1_ := am_ (blk_below (g := gb208) (o := .cells #[.int .i64 a1_0, .int .i64 a1_1] 45 (0, 0)) q176_ hb); have n2_ := am_ (below_step q104_ hb); clear BK207 BK208 HB; have BK207 := n0_; have BK208 := n1_; have HB := n2_; clear n0_ n1_ n2_; (try clear hb); (try clear hb2); (try clear hk); (try clear hi); have hcz26_0 := bc0_ BK208.out; have hcz26_1 := bc1_ BK208.out; have hfz26_0 := blk_frozen BK208.out 0; have hfz26_1 := blk_frozen BK208.out 1; have hcz27_0 := bc0_ BK207.out; have hcz27_1 := bc1_ BK207.out; have hcz27_2 := bc2_ BK207.out; have hcz27_3 := bc3_ BK207.out; have hfz27_0 := blk_frozen BK207.out 0; have hfz27_1 := blk_frozen BK207.out 1; have hfz27_2 := blk_frozen BK207.out 2; have hfz27_3 := blk_frozen BK207.out 3) | (go_at_call 43; (with_reducible refine (border_Valid.calls k a1_0 a1_1 a0_2 false _ A7.out).mono ?_); rintro e w28 ⟨rfl, hb⟩; have n0_ := am_ (blk_below (g := gb207) (o := .cells #[.int .i64 a0_0, .int .i64 a0_1, .int .i64 a0_2, .slice A0_3 l0_3.length c0_3] 26 (0, 0)) q175_ hb); have n1_ := am_ (blk_below (g := gb208) (o := .cells #[.int .i64 a1_0, .int .i64 a1_1] 45 (0, 0)) q176_ hb); have n2_ := am_ (below_step q104_ hb); clear BK207 BK208 HB; have BK207 := n0_; have BK208 := n1_; have HB := n2_; clear n0_ n1_ n2_; (try clear hb); (try clear hb2); (try clear hk); (try clear hi)))
   go_ret
   exact ⟨q224_, q104_⟩
 ·replace c6 := Bool.eq_false_iff.mpr c6
  subst c6; have H1 : (some 0) = some r := by rw [if_neg (show ¬ (false = true) by decide)] at H; exact H
  clear H; have H := H1; clear H1; obtain rfl := Option.some.inj H
  go_enter Try.func26, Try.ntmps26
  go_wp2_with (first | ((with_reducible refine gate_dst (N := 4) rfl ?_); refine box_event ?hg (N := 4) ?hd (cs := #[.int .i64 a0_0, .int .i64 a0_1, .int .i64 a0_2, .slice A0_3 l0_3.length c0_3]) (t := 26) ?hr ?_; (case hd => rfl); (case hg => rfl); (case hr => first | (go_simp; done) | (go_simp; rfl)); intro gb207 hg w29 hbox hb; have n0_ := am_ (below_step q153_ hb); have n1_ := am_ (hbox); have n2_ := am_ ((q123_ : w.heap.size ≤ gb207)); have n3_ := am_ ((q123_ : w.heap.size ≤ gb207)); clear HB; have HB := n0_; have BK207 := n1_; have GW207 := n2_; have GE207 := n3_; clear n0_ n1_ n2_ n3_; clear hb hbox hg) | ((with_reducible refine gate_dst (N := 5) rfl ?_); refine box_event ?hg (N := 5) ?hd (cs := #[.int .i64 a1_0, .int .i64 a1_1]) (t := 45) ?hr ?_; (case hd => rfl); (case hg => rfl); (case hr => first | (go_simp; done) | (go_simp; rfl)); intro gb208 hg w30 hbox hb; have n0_ := am_ (blk_below (g := gb207) (o := .cells #[.int .i64 a0_0, .int .i64 a0_1, .int .i64 a0_2, .slice A0_3 l0_3.length c0_3] 26 (0, 0)) q175_ hb); have n1_ := am_ (below_step q135_ hb); have n2_ := am_ (hbox); have n3_ := am_ ((q95_ : w.heap.size ≤ gb208)); have n4_ := am_ ((q95_ : w.heap.size ≤ gb208)); have n5_ := am_ ((q23_ : gb207 ≠ gb208)); have n6_ := am_ ((q24_ : gb208 ≠ gb207)); clear BK207 HB; have BK207 := n0_; have HB := n1_; have BK208 := n2_; have GW208 := n3_; have GE208 := n4_; have NB207_208 := n5_; have NB208_207 := n6_; clear n0_ n1_ n2_ n3_ n4_ n5_ n6_; clear hb hbox hg; have hnb31 := NB207_208.out; have hnc31 := NB208_207.out; have hcz32_0 := bc0_ BK207.out; have hcz32_1 := bc1_ BK207.out; have hcz32_2 := bc2_ BK207.out; have hcz32_3 := bc3_ BK207.out; have hfz32_0 := blk_frozen BK207.out 0; have hfz32_1 := blk_frozen BK207.out 1; have hfz32_2 := blk_frozen BK207.out 2; have hfz32_3 := blk_frozen BK207.out 3) | ((with_reducible refine gate_callee (f := 17) rfl ?_); refine goesL_ (some 10) rfl rfl Try.func17 (by kernel_rfl) rfl #[.agg #[.int .i64 a0_0, .int .i64 a0_1, .int .i64 a0_2, .slice A0_3 l0_3.length c0_3]] rfl q150_ ?_; (with_reducible refine (plane_Valid.calls k a0_0 a0_1 a0_2 _ _ l0_3 false _ ?side1 ?side2 A5.out).mono ?_); (case side1 => repeat (first | exact (Kd.C_below HR0_3.out HB.out) | (with_reducible refine Kd.C_alloc ?_ _) | (with_reducible refine Kd.C_drewN ?_ _) | (with_reducible refine Kd.C_drew ?_))); (case side2 => exact HC0_3.out); rintro e w33 ⟨rfl, hb⟩; refine ⟨_, rfl, ?_⟩; have n0_ := am_ (blk_below (g := gb207) (o := .cells #[.int .i64 a0_0, .int .i64 a0_1, .int .i64 a0_2, .slice A0_3 l0_3.length c0_3] 26 (0, 0)) q175_ hb); have n1_ := am_ (blk_below (g := gb208) (o := .cells #[.int .i64 a1_0, .int .i64 a1_1] 45 (0, 0)) q176_ hb); have n2_ := am_ (below_step q104_ hb); clear BK207 BK208 HB; have BK207 := n0_; have BK208 := n1_; have HB := n2_; clear n0_ n1_ n2_; (try clear hb); (try clear hb2); (try clear hk); (try clear hi)))
  go_ret
  exact ⟨q224_, q104_⟩


def tilefarmlaw4_two.f  : Option (Int × Int × Int × List Int) := some (2, 2, 9, (([1, 2, 3, 4] : List Int)))
set_option maxHeartbeats 8000000 in
set_option maxRecDepth 100000 in
theorem tilefarmlaw4_two.calls  (r1 : Int) (r2 : Int) (r3 : Int) (r4 : List Int) (w : World) (h : tilefarmlaw4_two.f  = some (r1, r2, r3, r4)) :
  Calls Try.prog 41 #[] w fun e w' => ∃ v3_ : Value, e = .returned (.agg #[.int .i64 r1, .int .i64 r2, .int .i64 r3, v3_]) ∧ Kd.R (Kd.int .i64) 3 w' w.heap.size (fun _ => True) v3_ r4 ∧ Below w.heap.size w w' := by
 have hu26 := Try.underlying26; have HB := am_ (Below.refl w.heap.size w); have H : (some (2, 2, 9, (([1, 2, 3, 4] : List Int)))) = some (r1, r2, r3, r4) := h; clear h; obtain ⟨y213, hy213⟩ : ∃ y_ : List Int, y_ = (([1, 2, 3, 4] : List Int)) := ⟨_, rfl⟩; replace H : (some (2, 2, 9, y213)) = some (r1, r2, r3, r4) := by first | (rw [hy213]; with_reducible exact H) | (have H2_ := (Option.bind_some _ _).symm.trans H; rw [hy213]; with_reducible exact H2_) | (have H2_ := (Option.bind_some _ _).symm.trans H; with_reducible exact H2_) | with_reducible exact H | (rw [hy213]; exact H) | exact H
 have Ny213 := am_ hy213; clear hy213; simp only [Option.some.injEq, Prod.mk.injEq] at H; obtain ⟨rfl, rfl, rfl, rfl⟩ := H
 go_enter Try.func41, Try.ntmps41
 go_wp2_with (first | ((with_reducible refine gate_dst (N := 0) rfl ?_); refine box_event ?hg (N := 0) ?hd (cs := #[.int .i64 0, .int .i64 0, .int .i64 0, .slice none 0 0]) (t := 26) ?hr ?_; (case hd => rfl); (case hg => rfl); (case hr => first | (go_simp; done) | (go_simp; rfl)); intro gb212 hg w1 hbox hb; have n0_ := am_ (below_step q153_ hb); have n1_ := am_ (hbox); have n2_ := am_ ((q123_ : w.heap.size ≤ gb212)); have n3_ := am_ ((q123_ : w.heap.size ≤ gb212)); clear HB; have HB := n0_; have BK212 := n1_; have GW212 := n2_; have GE212 := n3_; clear n0_ n1_ n2_ n3_; clear hb hbox hg) | ((with_reducible refine gate_dst (N := 1) rfl ?_); refine Kd.R_lit (Kd.int .i64) _ 3 ?hg (N := 1) ?hd (xs := ([1, 2, 3, 4] : List Int)) (inner := [.int .i64 1, .int .i64 2, .int .i64 3, .int .i64 4]) (ok := fun _ => True) (okp := fun _ => True) ?hr ?hp (fun _ hk => hk) trivial (Below.refl _ _) (Nat.le_refl _) (by simp) ?_; (case hd => rfl); (case hg => rfl); (case hr => first | (go_simp; done) | (go_simp; rfl)); (case hp => exact (Reps.one (show Kd.M (Kd.int .i64) _ _ _ 1 [.int .i64 1] from rfl) (Reps.one (show Kd.M (Kd.int .i64) _ _ _ 2 [.int .i64 2] from rfl) (Reps.one (show Kd.M (Kd.int .i64) _ _ _ 3 [.int .i64 3] from rfl) (Reps.one (show Kd.M (Kd.int .i64) _ _ _ 4 [.int .i64 4] from rfl) (Reps.none _ _)))))); intro v214 w2 ho3 hb hg_ hnew_; clear hg_ hnew_; (first | rw [← Ny213.out] at ho3 | (simp only [Int.reduceToNat] at ho3; rw [← Ny213.out] at ho3)); have n0_ := am_ (Kd.R_lower ho3 (below_size q136_)); have n1_ := am_ (blk_below (g := gb212) (o := .cells #[.int .i64 0, .int .i64 0, .int .i64 0, .slice none 0 0] 26 (0, 0)) (by (with_reducible repeat (first | refine blk_drewN ?_ _ | refine blk_drew ?_ | refine blk_alloc ?_ _)); exact BK212.out) hb); have n2_ := am_ (below_step q136_ hb); clear BK212 HB; have HO215 := n0_; have BK212 := n1_; have HB := n2_; clear n0_ n1_ n2_; clear hb ho3; obtain ⟨Ao4, co4, eo4⟩ := Kd.R_slice HO215.out; subst eo4; have hcz5_0 := bc0_ BK212.out; have hcz5_1 := bc1_ BK212.out; have hcz5_2 := bc2_ BK212.out; have hcz5_3 := bc3_ BK212.out; have hfz5_0 := blk_frozen BK212.out 0; have hfz5_1 := blk_frozen BK212.out 1; have hfz5_2 := blk_frozen BK212.out 2; have hfz5_3 := blk_frozen BK212.out 3))
 refine bodyPost_ret (results_cell_row rfl _ _ gb212 26 #[.int .i64 2, .int .i64 2, .int .i64 9, .slice Ao4 y213.length co4] (0, 0) _ rfl (by (with_reducible repeat (first | refine blk_drewN ?_ _ | refine blk_drew ?_ | refine blk_alloc ?_ _)); refine blk_put (cs := #[.int .i64 2, .int .i64 2, .int .i64 9, .slice none 0 0]) ?_ 3 _ rfl; (with_reducible repeat (first | refine blk_drewN ?_ _ | refine blk_drew ?_ | refine blk_alloc ?_ _)); refine blk_put (cs := #[.int .i64 2, .int .i64 2, .int .i64 0, .slice none 0 0]) ?_ 2 _ rfl; (with_reducible repeat (first | refine blk_drewN ?_ _ | refine blk_drew ?_ | refine blk_alloc ?_ _)); refine blk_put (cs := #[.int .i64 2, .int .i64 0, .int .i64 0, .slice none 0 0]) ?_ 1 _ rfl; (with_reducible repeat (first | refine blk_drewN ?_ _ | refine blk_drew ?_ | refine blk_alloc ?_ _)); refine blk_put (cs := #[.int .i64 0, .int .i64 0, .int .i64 0, .slice none 0 0]) ?_ 0 _ rfl; (with_reducible repeat (first | refine blk_drewN ?_ _ | refine blk_drew ?_ | refine blk_alloc ?_ _)); exact BK212.out) Try.underlying26 rfl (by kernel_rfl)) rfl ?_; exact ⟨_, q224_, by (with_reducible repeat (first | apply Kd.R_alloc | apply Kd.R_drewN | apply Kd.R_drew)); exact Kd.R_mono (Kd.R_far (p := ⟨gb212, 3, none⟩) (Kd.R_far (p := ⟨gb212, 2, none⟩) (Kd.R_far (p := ⟨gb212, 1, none⟩) (Kd.R_far (p := ⟨gb212, 0, none⟩) (Kd.R_types HO215.out BK212.out (by decide)) (fun _ hk => hk.2) (.int .i64 2)) (fun _ hk => hk.2) (.int .i64 2)) (fun _ hk => hk.2) (.int .i64 9)) (fun _ hk => hk.2) (.slice Ao4 y213.length co4)) (fun _ hk => trivial), q136_⟩

end Go.Proofs.Ytgkccacenlcebaa.PPlaneCrops
