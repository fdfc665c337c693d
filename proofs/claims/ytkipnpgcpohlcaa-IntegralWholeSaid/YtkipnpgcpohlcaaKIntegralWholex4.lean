-- Written by a program of the session (wip/tools/pack.py): the printed texts, pruned; checked by Lean.
import Derived.Test.YtkipnpgcpohlcaaKIntegralWholea
import Derived.Test.YtkipnpgcpohlcaaKIntegralWholex0
import Derived.Test.YtkipnpgcpohlcaaKIntegralWholex1
import Derived.Test.YtkipnpgcpohlcaaKIntegralWholex2
import Derived.Test.YtkipnpgcpohlcaaKIntegralWholex3
namespace Go.Proofs.Ytkipnpgcpohlcaa.PIntegralWhole
open Go.RowKit Go.Proofs.YtkipnpgcpohlcaaW.PrintWords Go.Proofs.YtkipnpgcpohlcaaW.PrintLast Go.Proofs.YtkipnpgcpohlcaaW.PrintMore
attribute [local go_sem] max2_int min2_int max_two min_two max_three min_three max_four min_four   -- for this text's walks alone
set_option linter.unusedVariables false
set_option linter.unusedSimpArgs false
attribute [local go_sem high] eqA32
def tilefarmgen_Tape_Plane.f (k : Nat) (s0_0 : List Int) (s0_1 : Int) : Option (Int × Int × Int × List Int × Int) := (tilefarmgen_Tape_Next.f s0_0 s0_1 6).bind fun bt128 => ((tilefarmgen_Tape_Next.f s0_0 bt128.2 5).bind fun bt130 => ((tilefarmgen_Tape_Sized.f k s0_0 bt130.2 (wrap64 (1 + bt128.1)) (wrap64 (1 + bt130.1))).bind fun bt132 => (some (bt132.1, bt132.2.1, bt132.2.2.1, bt132.2.2.2.1, bt132.2.2.2.2))))
theorem tilefarmgen_Tape_Plane.mono : ∀ a0 a1 k, LeO (tilefarmgen_Tape_Plane.f k a0 a1) (tilefarmgen_Tape_Plane.f (k + 1) a0 a1) := by
 intro a0 a1 k; unfold tilefarmgen_Tape_Plane.f
 repeat' first
   | (with_reducible exact tilefarmgen_Tape_Sized.mono _ _ _ _ _)
   | (with_reducible exact LeO.refl _)
   | (with_reducible exact LeO.none _)
   | (with_reducible refine LeO.ite ?_ ?_)
   | (with_reducible refine LeO.bind ?_ (fun _ => ?_))
   | exact tilefarmgen_Tape_Sized.mono _ _ _ _ _
   | exact LeO.none _
   | refine LeO.ite ?_ ?_
   | refine LeO.bind ?_ (fun _ => ?_)
set_option maxHeartbeats 8000000 in
set_option maxRecDepth 100000 in
theorem tilefarmgen_Tape_Plane.calls (k : Nat) (g : Nat) (s0_0 : List Int) (s0_1 : Int) (r1 : Int) (r2 : Int) (r3 : Int) (r4 : List Int) (r5 : Int) (w0 w : World) (hI : IsS56 w0 w g s0_0 s0_1) (hB : Below w0.heap.size w0 w) (h : tilefarmgen_Tape_Plane.f k s0_0 s0_1 = some (r1, r2, r3, r4, r5)) :
  Calls Try.prog 9 #[.pointer (some ⟨g, 0, none⟩)] w fun e w' => ∃ v3_ : Value, e = .returned (.agg #[.int .i64 r1, .int .i64 r2, .int .i64 r3, v3_]) ∧ Kd.R (Kd.int .i64) 3 w' w.heap.size (fun _ => True) v3_ r4 ∧ IsS56 w0 w' g s0_0 r5 ∧ Below w0.heap.size w0 w' ∧ KeepBut w w' g none := by
 have hu26 := Try.underlying26; have HI0 := am_ hI; have HK := am_ (KeepBut.refl w g none); have HL := am_ hB.size; clear hI; have HW0 := am_ hB.size; have HB := am_ hB; clear hB; have H : ((tilefarmgen_Tape_Next.f s0_0 s0_1 6).bind fun bt128 => ((tilefarmgen_Tape_Next.f s0_0 bt128.2 5).bind fun bt130 => ((tilefarmgen_Tape_Sized.f k s0_0 bt130.2 (wrap64 (1 + bt128.1)) (wrap64 (1 + bt130.1))).bind fun bt132 => (some (bt132.1, bt132.2.1, bt132.2.2.1, bt132.2.2.2.1, bt132.2.2.2.2))))) = some (r1, r2, r3, r4, r5) := h; clear h; replace H := Option.bind_eq_some_iff.mp H; obtain ⟨⟨t128, t129⟩, A20, H⟩ := H; replace H : ((tilefarmgen_Tape_Next.f s0_0 t129 5).bind fun bt130 => ((tilefarmgen_Tape_Sized.f k s0_0 bt130.2 (wrap64 (1 + t128)) (wrap64 (1 + bt130.1))).bind fun bt132 => (some (bt132.1, bt132.2.1, bt132.2.2.1, bt132.2.2.2.1, bt132.2.2.2.2)))) = some (r1, r2, r3, r4, r5) := H; have A2 := am_ A20; clear A20; replace H := Option.bind_eq_some_iff.mp H; obtain ⟨⟨t130, t131⟩, A30, H⟩ := H; replace H : ((tilefarmgen_Tape_Sized.f k s0_0 t131 (wrap64 (1 + t128)) (wrap64 (1 + t130))).bind fun bt132 => (some (bt132.1, bt132.2.1, bt132.2.2.1, bt132.2.2.2.1, bt132.2.2.2.2))) = some (r1, r2, r3, r4, r5) := H; have A3 := am_ A30; clear A30; replace H := Option.bind_eq_some_iff.mp H; obtain ⟨⟨t132, t133, t134, t135, t138⟩, A40, H⟩ := H; replace H : (some (t132, t133, t134, t135, t138)) = some (r1, r2, r3, r4, r5) := H; have A4 := am_ A40; clear A40; simp only [Option.some.injEq, Prod.mk.injEq] at H; obtain ⟨rfl, rfl, rfl, rfl, rfl⟩ := H
 go_enter Try.func9, Try.ntmps9
 go_wp2_with (first | ((with_reducible refine gate_dst (N := 2) rfl ?_); refine box_event ?hg (N := 2) ?hd (cs := #[.int .i64 0, .int .i64 0, .int .i64 0, .slice none 0 0]) (t := 26) ?hr ?_; (case hd => rfl); (case hg => rfl); (case hr => first | (go_simp; done) | (go_simp; rfl)); intro gb127 hg w5 hbox hb; have n0_ := am_ (IsS56.below q137_ hb); have n1_ := am_ (KeepBut.trans q138_ (KeepBut.of_below hb g none) (.inl rfl)); have n2_ := am_ (below_step q106_ hb); have n3_ := am_ (hbox); have n4_ := am_ ((q78_ : w.heap.size ≤ gb127)); have n5_ := am_ ((Nat.le_trans HW0.out (q78_ : w.heap.size ≤ gb127) : w0.heap.size ≤ gb127)); have n6_ := am_ ((q70_ : g ≠ gb127)); have n7_ := am_ ((q71_ : gb127 ≠ g)); clear HI0 HK HB; have HI0 := n0_; have HK := n1_; have HB := n2_; have BK127 := n3_; have GW127 := n4_; have GE127 := n5_; have NB0_127 := n6_; have NB127_0 := n7_; clear n0_ n1_ n2_ n3_ n4_ n5_ n6_ n7_; clear hb hbox hg) | ((with_reducible refine gate_callee (f := 12) rfl ?_); refine goesL_ (some 5) rfl rfl Try.func12 (by kernel_rfl) rfl #[.pointer (some ⟨g, 0, none⟩), .int .i64 6] rfl q140_ ?_; (with_reducible refine (tilefarmgen_Tape_Next.calls g s0_0 s0_1 6 t128 t129 w0 _ ?side1 ?side2 A2.out).mono ?_); (case side1 => repeat (first | (with_reducible first | exact HI0.out | apply IsS56.alloc | apply IsS56.drewN | apply IsS56.drew | apply IsS56.set_1 | refine IsS56.far ?_ NB0_127.out _) | exact HI0.out)); (case side2 => repeat (first | (with_reducible first | exact HB.out | apply below_alloc | apply pw_below_drewN | apply below_drew1 | refine below_set ?_ (IsS56.ge HI0.out) | refine below_set ?_ GE127.out) | exact HB.out)); rintro e w6 ⟨rfl, hi, hb, hk⟩; refine ⟨_, rfl, ?_⟩; have n0_ := am_ (KeepBut.blk hk (g' := gb127) (o := .cells #[.int .i64 0, .int .i64 0, .int .i64 0, .slice none 0 0] 26 (0, 0)) q146_ NB127_0.out (by simp)); have n1_ := am_ (KeepBut.trans q103_ hk (.inl rfl)); have n2_ := am_ (hb); have n3_ := am_ (hi); clear BK127 HK HB HI0; have BK127 := n0_; have HK := n1_; have HB := n2_; have HI0 := n3_; clear n0_ n1_ n2_ n3_; (try clear hb); (try clear hb2); (try clear hk); (try clear hi)) | ((with_reducible refine gate_callee (f := 12) rfl ?_); refine goesL_ (some 8) rfl rfl Try.func12 (by kernel_rfl) rfl #[.pointer (some ⟨g, 0, none⟩), .int .i64 5] rfl q140_ ?_; (with_reducible refine (tilefarmgen_Tape_Next.calls g s0_0 t129 5 t130 t131 w0 _ ?side1 ?side2 A3.out).mono ?_); (case side1 => repeat (first | (with_reducible first | exact HI0.out | apply IsS56.alloc | apply IsS56.drewN | apply IsS56.drew | apply IsS56.set_1 | refine IsS56.far ?_ NB0_127.out _) | exact HI0.out)); (case side2 => repeat (first | (with_reducible first | exact HB.out | apply below_alloc | apply pw_below_drewN | apply below_drew1 | refine below_set ?_ (IsS56.ge HI0.out) | refine below_set ?_ GE127.out) | exact HB.out)); rintro e w7 ⟨rfl, hi, hb, hk⟩; refine ⟨_, rfl, ?_⟩; have n0_ := am_ (KeepBut.blk hk (g' := gb127) (o := .cells #[.int .i64 0, .int .i64 0, .int .i64 0, .slice none 0 0] 26 (0, 0)) q146_ NB127_0.out (by simp)); have n1_ := am_ (KeepBut.trans q103_ hk (.inl rfl)); have n2_ := am_ (hb); have n3_ := am_ (hi); clear BK127 HK HB HI0; have BK127 := n0_; have HK := n1_; have HB := n2_; have HI0 := n3_; clear n0_ n1_ n2_ n3_; (try clear hb); (try clear hb2); (try clear hk); (try clear hi)) | ((with_reducible refine gate_callee (f := 28) rfl ?_); refine goesL_ (some 10) rfl rfl Try.func28 (by kernel_rfl) rfl #[.pointer (some ⟨g, 0, none⟩), .int .i64 (wrap64 (1 + t128)), .int .i64 (wrap64 (1 + t130))] rfl q140_ ?_; (with_reducible refine (tilefarmgen_Tape_Sized.calls k g s0_0 t131 (wrap64 (1 + t128)) (wrap64 (1 + t130)) t132 t133 t134 t135 t138 w0 _ ?side1 ?side2 A4.out).mono ?_); (case side1 => repeat (first | (with_reducible first | exact HI0.out | apply IsS56.alloc | apply IsS56.drewN | apply IsS56.drew | apply IsS56.set_1 | refine IsS56.far ?_ NB0_127.out _) | exact HI0.out)); (case side2 => repeat (first | (with_reducible first | exact HB.out | apply below_alloc | apply pw_below_drewN | apply below_drew1 | refine below_set ?_ (IsS56.ge HI0.out) | refine below_set ?_ GE127.out) | exact HB.out)); rintro e w8 ⟨v136, rfl, ho0, hi, hb, hk⟩; refine ⟨_, rfl, ?_⟩; have n0_ := am_ (KeepBut.blk hk (g' := gb127) (o := .cells #[.int .i64 0, .int .i64 0, .int .i64 0, .slice none 0 0] 26 (0, 0)) q146_ NB127_0.out (by simp)); have n1_ := am_ (Kd.R_lower ho0 (keep_size (w := w) (g := g) (row := none) q103_)); have n2_ := am_ (KeepBut.trans q103_ hk (.inl rfl)); have n3_ := am_ (hb); have n4_ := am_ (hi); clear BK127 HK HB HI0; have BK127 := n0_; have HO137 := n1_; have HK := n2_; have HB := n3_; have HI0 := n4_; clear n0_ n1_ n2_ n3_ n4_; (try clear hb); (try clear hb2); (try clear hk); (try clear hi); (try clear ho0); have hnb9 := NB127_0.out; have hnc9 := NB0_127.out; have hcz10_0 := bc0_ BK127.out; have hcz10_1 := bc1_ BK127.out; have hcz10_2 := bc2_ BK127.out; have hcz10_3 := bc3_ BK127.out; have hfz10_0 := blk_frozen BK127.out 0; have hfz10_1 := blk_frozen BK127.out 1; have hfz10_2 := blk_frozen BK127.out 2; have hfz10_3 := blk_frozen BK127.out 3; obtain ⟨Ao11, co11, eo11⟩ := Kd.R_slice HO137.out; subst eo11))
 refine bodyPost_ret (results_cell_row rfl _ _ gb127 26 #[.int .i64 t132, .int .i64 t133, .int .i64 t134, .slice Ao11 t135.length co11] (0, 0) _ rfl (by (with_reducible repeat (first | refine blk_drewN ?_ _ | refine blk_drew ?_ | refine blk_alloc ?_ _)); refine blk_put (cs := #[.int .i64 t132, .int .i64 t133, .int .i64 t134, .slice none 0 0]) ?_ 3 _ rfl; (with_reducible repeat (first | refine blk_drewN ?_ _ | refine blk_drew ?_ | refine blk_alloc ?_ _)); refine blk_put (cs := #[.int .i64 t132, .int .i64 t133, .int .i64 0, .slice none 0 0]) ?_ 2 _ rfl; (with_reducible repeat (first | refine blk_drewN ?_ _ | refine blk_drew ?_ | refine blk_alloc ?_ _)); refine blk_put (cs := #[.int .i64 t132, .int .i64 0, .int .i64 0, .slice none 0 0]) ?_ 1 _ rfl; (with_reducible repeat (first | refine blk_drewN ?_ _ | refine blk_drew ?_ | refine blk_alloc ?_ _)); refine blk_put (cs := #[.int .i64 0, .int .i64 0, .int .i64 0, .slice none 0 0]) ?_ 0 _ rfl; (with_reducible repeat (first | refine blk_drewN ?_ _ | refine blk_drew ?_ | refine blk_alloc ?_ _)); exact BK127.out) Try.underlying26 rfl (by kernel_rfl)) rfl ?_; exact ⟨_, q211_, by (with_reducible repeat (first | apply Kd.R_alloc | apply Kd.R_drewN | apply Kd.R_drew)); exact Kd.R_mono (Kd.R_far (p := ⟨gb127, 3, none⟩) (Kd.R_far (p := ⟨gb127, 2, none⟩) (Kd.R_far (p := ⟨gb127, 1, none⟩) (Kd.R_far (p := ⟨gb127, 0, none⟩) (Kd.R_types HO137.out BK127.out (by decide)) (fun _ hk => hk.2) (.int .i64 t132)) (fun _ hk => hk.2) (.int .i64 t133)) (fun _ hk => hk.2) (.int .i64 t134)) (fun _ hk => hk.2) (.slice Ao11 t135.length co11)) (fun _ hk => trivial), by repeat (first | (with_reducible first | exact HI0.out | apply IsS56.alloc | apply IsS56.drewN | apply IsS56.drew | apply IsS56.set_1 | refine IsS56.far ?_ NB0_127.out _) | exact HI0.out), by repeat (first | (with_reducible first | exact HB.out | apply below_alloc | apply pw_below_drewN | apply below_drew1 | refine below_set ?_ (IsS56.ge HI0.out) | refine below_set ?_ GE127.out) | exact HB.out), q103_⟩


def extent_Mul.f (a0 : Int) (a1 : Int) (a2 : Int) : Option (Int × Bool) := if a0 < 0 then (some (0, false)) else (if a1 < 0 then (some (0, false)) else (if a2 < 0 then (some (0, false)) else (if a0 = 0 then (some (wrap64 (a0 * a1), true)) else (if a1 > (wrap64 (Int.tdiv a2 a0)) then (some (0, false)) else (some (wrap64 (a0 * a1), true))))))
set_option maxHeartbeats 8000000 in
set_option maxRecDepth 100000 in
theorem extent_Mul.calls (a0 : Int) (a1 : Int) (a2 : Int) (r1 : Int) (r2 : Bool) (w : World) (h : extent_Mul.f a0 a1 a2 = some (r1, r2)) :
  Calls Try.prog 54 #[.int .i64 a0, .int .i64 a1, .int .i64 a2] w fun e w' => e = .returned (.tuple #[.int .i64 r1, .bool r2]) ∧ Drawn0 w w' := by
 have H : (if a0 < 0 then (some (0, false)) else (if a1 < 0 then (some (0, false)) else (if a2 < 0 then (some (0, false)) else (if a0 = 0 then (some (wrap64 (a0 * a1), true)) else (if a1 > (wrap64 (Int.tdiv a2 a0)) then (some (0, false)) else (some (wrap64 (a0 * a1), true))))))) = some (r1, r2) := h; clear h
 by_cases c4 : a0 < 0
 ·rw [if_pos c4] at H
  have c4b0 : decide (a0 < 0) = true := decide_eq_true c4; clear c4; simp only [Option.some.injEq, Prod.mk.injEq] at H; obtain ⟨rfl, rfl⟩ := H
  go_enter Try.func54, Try.ntmps54
  go_wp2
  go_ret2
  exact ⟨q217_, q213_⟩
 ·rw [if_neg c4] at H
  have c4b0 : decide (a0 < 0) = false := decide_eq_false c4; clear c4
  by_cases c5 : a1 < 0
  ·rw [if_pos c5] at H
   have c5b0 : decide (a1 < 0) = true := decide_eq_true c5; clear c5; simp only [Option.some.injEq, Prod.mk.injEq] at H; obtain ⟨rfl, rfl⟩ := H
   go_enter Try.func54, Try.ntmps54
   go_wp2
   go_ret2
   exact ⟨q217_, q213_⟩
  ·rw [if_neg c5] at H
   have c5b0 : decide (a1 < 0) = false := decide_eq_false c5; clear c5
   by_cases c6 : a2 < 0
   ·rw [if_pos c6] at H
    have c6b0 : decide (a2 < 0) = true := decide_eq_true c6; clear c6; simp only [Option.some.injEq, Prod.mk.injEq] at H; obtain ⟨rfl, rfl⟩ := H
    go_enter Try.func54, Try.ntmps54
    go_wp2
    go_ret2
    exact ⟨q217_, q213_⟩
   ·rw [if_neg c6] at H
    have c6b0 : decide (a2 < 0) = false := decide_eq_false c6; clear c6
    by_cases c7 : a0 = 0
    ·rw [if_pos c7] at H
     have c7b0 : (a0 == 0) = true := beq_iff_eq.mpr c7; have c7b1 : (a0 != 0) = false := bne_eq_false_iff_eq.mpr c7; clear c7; simp only [Option.some.injEq, Prod.mk.injEq] at H; obtain ⟨rfl, rfl⟩ := H
     go_enter Try.func54, Try.ntmps54
     go_wp2
     go_ret2
     exact ⟨q217_, q213_⟩
    ·rw [if_neg c7] at H
     have c7b0 : (a0 == 0) = false := beq_eq_false_iff_ne.mpr c7; have c7b1 : (a0 != 0) = true := bne_iff_ne.mpr c7
     by_cases c8 : a1 > (wrap64 (Int.tdiv a2 a0))
     ·rw [if_pos c8] at H
      have c8b0 : decide ((wrap64 (Int.tdiv a2 a0)) < a1) = true := decide_eq_true c8; clear c8; simp only [Option.some.injEq, Prod.mk.injEq] at H; obtain ⟨rfl, rfl⟩ := H
      go_enter Try.func54, Try.ntmps54
      go_wp2
      go_ret2
      exact ⟨q217_, q213_⟩
     ·rw [if_neg c8] at H
      have c8b0 : decide ((wrap64 (Int.tdiv a2 a0)) < a1) = false := decide_eq_false c8; clear c8; simp only [Option.some.injEq, Prod.mk.injEq] at H; obtain ⟨rfl, rfl⟩ := H
      go_enter Try.func54, Try.ntmps54
      go_wp2
      go_ret2
      exact ⟨q217_, q213_⟩


def integral_most.j0 : Nat → Bool → Int → Int → Int → Option (Int × Bool)
 | 0, _, _, _, _ => none
 | k + 1, x18, x140000, x140001, x140002 => if x18 = true then (some (0, false)) else ((extent_Mul.f x140000 x140001 4294967296).bind fun bt140 => (if bt140.2 = true then ((extent_Mul.f bt140.1 x140002 4294967296).bind fun bt142 => (some (bt142.1, bt142.2))) else (some (0, false))))
def integral_most.f (k : Nat) (a0_0 : Int) (a0_1 : Int) (a0_2 : Int) : Option (Int × Bool) := if a0_0 < 1 then (integral_most.j0 k true a0_0 a0_1 a0_2) else (if a0_1 < 1 then (integral_most.j0 k true a0_0 a0_1 a0_2) else (integral_most.j0 k (decide (a0_2 < 1)) a0_0 a0_1 a0_2))
theorem integral_most.mono_l : ∀ k, (∀ y0 y1 y2 y3, LeO (integral_most.j0 k y0 y1 y2 y3) (integral_most.j0 (k + 1) y0 y1 y2 y3))
 | 0 => fun _ _ _ _ r h => by simp [integral_most.j0] at h
 | k + 1 => by
  have ih0 := integral_most.mono_l k
  ·intro y0 y1 y2 y3
   unfold integral_most.j0
   repeat' first
   | (with_reducible exact ih0 _ _ _ _)
   | (with_reducible exact LeO.refl _)
   | (with_reducible exact LeO.none _)
   | (with_reducible refine LeO.ite ?_ ?_)
   | (with_reducible refine LeO.bind ?_ (fun _ => ?_))
   | exact ih0 _ _ _ _
   | exact LeO.none _
   | refine LeO.ite ?_ ?_
   | refine LeO.bind ?_ (fun _ => ?_)
theorem integral_most.mono : ∀ a0 a1 a2 k, LeO (integral_most.f k a0 a1 a2) (integral_most.f (k + 1) a0 a1 a2) := by
 intro a0 a1 a2 k; have ih0 := integral_most.mono_l k; unfold integral_most.f
 repeat' first
   | (with_reducible exact ih0 _ _ _ _)
   | (with_reducible exact LeO.refl _)
   | (with_reducible exact LeO.none _)
   | (with_reducible refine LeO.ite ?_ ?_)
   | (with_reducible refine LeO.bind ?_ (fun _ => ?_))
   | exact ih0 _ _ _ _
   | exact LeO.none _
   | refine LeO.ite ?_ ?_
   | refine LeO.bind ?_ (fun _ => ?_)
set_option maxHeartbeats 8000000 in
set_option maxRecDepth 100000 in
theorem integral_most.calls (k : Nat) (a0_0 : Int) (a0_1 : Int) (a0_2 : Int) (r1 : Int) (r2 : Bool) (w : World) (h : integral_most.f k a0_0 a0_1 a0_2 = some (r1, r2)) :
  Calls Try.prog 35 #[.agg #[.int .i64 a0_0, .int .i64 a0_1, .int .i64 a0_2]] w fun e w' => e = .returned (.tuple #[.int .i64 r1, .bool r2]) ∧ Below w.heap.size w w' := by
 have hu40 := Try.underlying40; have HB := am_ (Below.refl w.heap.size w); have H : (if a0_0 < 1 then (integral_most.j0 k true a0_0 a0_1 a0_2) else (if a0_1 < 1 then (integral_most.j0 k true a0_0 a0_1 a0_2) else (integral_most.j0 k (decide (a0_2 < 1)) a0_0 a0_1 a0_2))) = some (r1, r2) := h; clear h; have HC2 := am_ H; clear H
 go_enter Try.func35, Try.ntmps35
 go_upto_region 1 with (first | ((with_reducible refine gate_dst (N := 1) rfl ?_); refine box_event ?hg (N := 1) ?hd (cs := #[.int .i64 a0_0, .int .i64 a0_1, .int .i64 a0_2]) (t := 40) ?hr ?_; (case hd => rfl); (case hg => rfl); (case hr => first | (go_simp; done) | (go_simp; rfl)); intro gb139 hg w3 hbox hb; have n0_ := am_ (below_step q143_ hb); have n1_ := am_ (hbox); have n2_ := am_ ((q108_ : w.heap.size ≤ gb139)); have n3_ := am_ ((q108_ : w.heap.size ≤ gb139)); clear HB; have HB := n0_; have BK139 := n1_; have GW139 := n2_; have GE139 := n3_; clear n0_ n1_ n2_ n3_; clear hb hbox hg))
 (try simp only [Act.put, la_, lz_, ls_])
 go_cut [18] (fun v18 wc => ∃ (kq : Nat) (x18_1 : Bool), v18 = .bool x18_1 ∧ Aside0 (integral_most.j0 kq x18_1 a0_0 a0_1 a0_2 = some (r1, r2)) ∧ Aside0 (kq ≤ k) ∧ Aside0 (wc.heap[gb139]? = some (.cells #[.int .i64 a0_0, .int .i64 a0_1, .int .i64 a0_2] 40 (0, 0))) ∧ Aside0 (Below w.heap.size w wc))
 case first =>
  have H := HC2.out; clear HC2
  by_cases c4 : a0_0 < 1
  ·rw [if_pos c4] at H
   have c4b0 : decide (a0_0 < 1) = true := decide_eq_true c4; clear c4; (first | rw [c4b0] | (simp only [i64_w, i32_w]; rw [c4b0]) | skip); have H' := am_ H; clear H; have hcz5_0 := bc0_ BK139.out; have hcz5_1 := bc1_ BK139.out; have hcz5_2 := bc2_ BK139.out; have hfz5_0 := blk_frozen BK139.out 0; have hfz5_1 := blk_frozen BK139.out 1; have hfz5_2 := blk_frozen BK139.out 2
   go_wp2
   go_meet
   case rel => exact ⟨_, (true), q217_, H', ⟨by first | omega | exact Nat.le_refl _⟩, ⟨q147_⟩, ⟨q109_⟩⟩
  ·rw [if_neg c4] at H
   have c4b0 : decide (a0_0 < 1) = false := decide_eq_false c4; clear c4; (first | rw [c4b0] | (simp only [i64_w, i32_w]; rw [c4b0]) | skip)
   by_cases c6 : a0_1 < 1
   ·rw [if_pos c6] at H
    have c6b0 : decide (a0_1 < 1) = true := decide_eq_true c6; clear c6; have H' := am_ H; clear H; have hcz7_0 := bc0_ BK139.out; have hcz7_1 := bc1_ BK139.out; have hcz7_2 := bc2_ BK139.out; have hfz7_0 := blk_frozen BK139.out 0; have hfz7_1 := blk_frozen BK139.out 1; have hfz7_2 := blk_frozen BK139.out 2
    go_wp2
    go_meet
    case rel => exact ⟨_, (true), q217_, H', ⟨by first | omega | exact Nat.le_refl _⟩, ⟨q147_⟩, ⟨q109_⟩⟩
   ·rw [if_neg c6] at H
    have c6b0 : decide (a0_1 < 1) = false := decide_eq_false c6; clear c6; have H' := am_ H; clear H; have hcz8_0 := bc0_ BK139.out; have hcz8_1 := bc1_ BK139.out; have hcz8_2 := bc2_ BK139.out; have hfz8_0 := blk_frozen BK139.out 0; have hfz8_1 := blk_frozen BK139.out 1; have hfz8_2 := blk_frozen BK139.out 2
    go_wp2
    go_meet
    case rel => exact ⟨_, (decide (a0_2 < 1)), q217_, H', ⟨by first | omega | exact Nat.le_refl _⟩, ⟨q147_⟩, ⟨q109_⟩⟩
 case rest =>
  clear HC2; (try clear p2); (try clear c3); (try clear c4); (try clear c4b0); (try clear c6); (try clear c6b0); (try clear hcz5_0 hcz5_1 hcz5_2); (try clear hcz7_0 hcz7_1 hcz7_2); (try clear hcz8_0 hcz8_1 hcz8_2); (try clear hfz5_0 hfz5_1 hfz5_2); (try clear hfz7_0 hfz7_1 hfz7_2); (try clear hfz8_0 hfz8_1 hfz8_2); obtain ⟨kq, x18_1, rfl, HA, HJ1, BK139, HB⟩ := hcut; cases kq with
  | zero => exact absurd HA.out (by simp [integral_most.j0])
  | succ kj1 =>
   have H := HA.out; clear HA; simp only [integral_most.j0] at H
   by_cases c9 : x18_1 = true
   ·subst c9
    have H1 : (some (0, false)) = some (r1, r2) := by rw [if_pos rfl] at H; exact H
    clear H; have H := H1; clear H1; simp only [Option.some.injEq, Prod.mk.injEq] at H; obtain ⟨rfl, rfl⟩ := H
    go_wp2
    go_ret2
    exact ⟨q211_, q109_⟩
   ·replace c9 := Bool.eq_false_iff.mpr c9
    subst c9; have H1 : ((extent_Mul.f a0_0 a0_1 4294967296).bind fun bt140 => (if bt140.2 = true then ((extent_Mul.f bt140.1 a0_2 4294967296).bind fun bt142 => (some (bt142.1, bt142.2))) else (some (0, false)))) = some (r1, r2) := by rw [if_neg (show ¬ (false = true) by decide)] at H; exact H
    clear H; have H := H1; clear H1; replace H := Option.bind_eq_some_iff.mp H; obtain ⟨⟨t140, t141⟩, A100, H⟩ := H; replace H : (if t141 = true then ((extent_Mul.f t140 a0_2 4294967296).bind fun bt142 => (some (bt142.1, bt142.2))) else (some (0, false))) = some (r1, r2) := H; have A10 := am_ A100; clear A100
    by_cases c11 : t141 = true
    ·subst c11
     have H1 : ((extent_Mul.f t140 a0_2 4294967296).bind fun bt142 => (some (bt142.1, bt142.2))) = some (r1, r2) := by rw [if_pos rfl] at H; exact H
     clear H; have H := H1; clear H1; replace H := Option.bind_eq_some_iff.mp H; obtain ⟨⟨t142, t143⟩, A120, H⟩ := H; replace H : (some (t142, t143)) = some (r1, r2) := H; have A12 := am_ A120; clear A120; simp only [Option.some.injEq, Prod.mk.injEq] at H; obtain ⟨rfl, rfl⟩ := H; have hcz13_0 := bc0_ BK139.out; have hcz13_1 := bc1_ BK139.out; have hcz13_2 := bc2_ BK139.out; have hfz13_0 := blk_frozen BK139.out 0; have hfz13_1 := blk_frozen BK139.out 1; have hfz13_2 := blk_frozen BK139.out 2
     go_wp2_with (first | ((with_reducible refine gate_callee (f := 54) rfl ?_); refine goesL_ (some 24) rfl rfl Try.func54 (by kernel_rfl) rfl #[.int .i64 a0_0, .int .i64 a0_1, .int .i64 4294967296] rfl q140_ ?_; (with_reducible refine (extent_Mul.calls a0_0 a0_1 4294967296 t140 true _ A10.out).mono ?_); rintro e w' ⟨rfl, ⟨nd, rfl⟩⟩; refine ⟨_, rfl, ?_⟩) | ((with_reducible refine gate_callee (f := 54) rfl ?_); refine goesL_ (some 32) rfl rfl Try.func54 (by kernel_rfl) rfl #[.int .i64 t140, .int .i64 a0_2, .int .i64 4294967296] rfl q140_ ?_; (with_reducible refine (extent_Mul.calls t140 a0_2 4294967296 t142 t143 _ A12.out).mono ?_); rintro e w' ⟨rfl, ⟨nd, rfl⟩⟩; refine ⟨_, rfl, ?_⟩))
     go_ret2
     exact ⟨q211_, q109_⟩
    ·replace c11 := Bool.eq_false_iff.mpr c11
     subst c11; have H1 : (some (0, false)) = some (r1, r2) := by rw [if_neg (show ¬ (false = true) by decide)] at H; exact H
     clear H; have H := H1; clear H1; simp only [Option.some.injEq, Prod.mk.injEq] at H; obtain ⟨rfl, rfl⟩ := H; have hcz14_0 := bc0_ BK139.out; have hcz14_1 := bc1_ BK139.out; have hcz14_2 := bc2_ BK139.out; have hfz14_0 := blk_frozen BK139.out 0; have hfz14_1 := blk_frozen BK139.out 1; have hfz14_2 := blk_frozen BK139.out 2
     go_wp2_with (first | ((with_reducible refine gate_callee (f := 54) rfl ?_); refine goesL_ (some 24) rfl rfl Try.func54 (by kernel_rfl) rfl #[.int .i64 a0_0, .int .i64 a0_1, .int .i64 4294967296] rfl q140_ ?_; (with_reducible refine (extent_Mul.calls a0_0 a0_1 4294967296 t140 false _ A10.out).mono ?_); rintro e w' ⟨rfl, ⟨nd, rfl⟩⟩; refine ⟨_, rfl, ?_⟩))
     go_ret2
     exact ⟨q211_, q109_⟩


def integral_Check.f (k : Nat) (a0_0 : Int) (a0_1 : Int) (a0_2 : Int) : Option (Int) := (integral_most.f k a0_0 a0_1 a0_2).bind fun bt145 => (if bt145.2 = true then (some 0) else (some 11))
theorem integral_Check.mono : ∀ a0 a1 a2 k, LeO (integral_Check.f k a0 a1 a2) (integral_Check.f (k + 1) a0 a1 a2) := by
 intro a0 a1 a2 k; unfold integral_Check.f
 repeat' first
   | (with_reducible exact integral_most.mono _ _ _ _)
   | (with_reducible exact LeO.refl _)
   | (with_reducible exact LeO.none _)
   | (with_reducible refine LeO.ite ?_ ?_)
   | (with_reducible refine LeO.bind ?_ (fun _ => ?_))
   | exact integral_most.mono _ _ _ _
   | exact LeO.none _
   | refine LeO.ite ?_ ?_
   | refine LeO.bind ?_ (fun _ => ?_)
set_option maxHeartbeats 8000000 in
set_option maxRecDepth 100000 in
theorem integral_Check.calls (k : Nat) (a0_0 : Int) (a0_1 : Int) (a0_2 : Int) (r : Int) (w : World) (h : integral_Check.f k a0_0 a0_1 a0_2 = some r) :
  Calls Try.prog 15 #[.agg #[.int .i64 a0_0, .int .i64 a0_1, .int .i64 a0_2]] w fun e w' => e = .returned (.int .i64 r) ∧ Below w.heap.size w w' := by
 have hu40 := Try.underlying40; have HB := am_ (Below.refl w.heap.size w); have H : ((integral_most.f k a0_0 a0_1 a0_2).bind fun bt145 => (if bt145.2 = true then (some 0) else (some 11))) = some r := h; clear h; replace H := Option.bind_eq_some_iff.mp H; obtain ⟨⟨t145, t146⟩, A20, H⟩ := H; replace H : (if t146 = true then (some 0) else (some 11)) = some r := H; have A2 := am_ A20; clear A20
 by_cases c3 : t146 = true
 ·subst c3
  have H1 : (some 0) = some r := by rw [if_pos rfl] at H; exact H
  clear H; have H := H1; clear H1; obtain rfl := Option.some.inj H
  go_enter Try.func15, Try.ntmps15
  go_wp2_with (first | ((with_reducible refine gate_dst (N := 1) rfl ?_); refine box_event ?hg (N := 1) ?hd (cs := #[.int .i64 a0_0, .int .i64 a0_1, .int .i64 a0_2]) (t := 40) ?hr ?_; (case hd => rfl); (case hg => rfl); (case hr => first | (go_simp; done) | (go_simp; rfl)); intro gb144 hg w4 hbox hb; have n0_ := am_ (below_step q143_ hb); have n1_ := am_ (hbox); have n2_ := am_ ((q108_ : w.heap.size ≤ gb144)); have n3_ := am_ ((q108_ : w.heap.size ≤ gb144)); clear HB; have HB := n0_; have BK144 := n1_; have GW144 := n2_; have GE144 := n3_; clear n0_ n1_ n2_ n3_; clear hb hbox hg; have hcz5_0 := bc0_ BK144.out; have hcz5_1 := bc1_ BK144.out; have hcz5_2 := bc2_ BK144.out; have hfz5_0 := blk_frozen BK144.out 0; have hfz5_1 := blk_frozen BK144.out 1; have hfz5_2 := blk_frozen BK144.out 2) | ((with_reducible refine gate_callee (f := 35) rfl ?_); refine goesL_ (some 7) rfl rfl Try.func35 (by kernel_rfl) rfl #[.agg #[.int .i64 a0_0, .int .i64 a0_1, .int .i64 a0_2]] rfl q140_ ?_; (with_reducible refine (integral_most.calls k a0_0 a0_1 a0_2 t145 true _ A2.out).mono ?_); rintro e w6 ⟨rfl, hb⟩; refine ⟨_, rfl, ?_⟩; have n0_ := am_ (blk_below (g := gb144) (o := .cells #[.int .i64 a0_0, .int .i64 a0_1, .int .i64 a0_2] 40 (0, 0)) (by (with_reducible repeat (first | refine blk_drewN ?_ _ | refine blk_drew ?_ | refine blk_alloc ?_ _)); exact BK144.out) hb); have n1_ := am_ (below_step q110_ hb); clear BK144 HB; have BK144 := n0_; have HB := n1_; clear n0_ n1_; (try clear hb); (try clear hb2); (try clear hk); (try clear hi)))
  go_ret
  exact ⟨q211_, q110_⟩
 ·replace c3 := Bool.eq_false_iff.mpr c3
  subst c3; have H1 : (some 11) = some r := by rw [if_neg (show ¬ (false = true) by decide)] at H; exact H
  clear H; have H := H1; clear H1; obtain rfl := Option.some.inj H
  go_enter Try.func15, Try.ntmps15
  go_wp2_with (first | ((with_reducible refine gate_dst (N := 1) rfl ?_); refine box_event ?hg (N := 1) ?hd (cs := #[.int .i64 a0_0, .int .i64 a0_1, .int .i64 a0_2]) (t := 40) ?hr ?_; (case hd => rfl); (case hg => rfl); (case hr => first | (go_simp; done) | (go_simp; rfl)); intro gb144 hg w7 hbox hb; have n0_ := am_ (below_step q143_ hb); have n1_ := am_ (hbox); have n2_ := am_ ((q108_ : w.heap.size ≤ gb144)); have n3_ := am_ ((q108_ : w.heap.size ≤ gb144)); clear HB; have HB := n0_; have BK144 := n1_; have GW144 := n2_; have GE144 := n3_; clear n0_ n1_ n2_ n3_; clear hb hbox hg; have hcz8_0 := bc0_ BK144.out; have hcz8_1 := bc1_ BK144.out; have hcz8_2 := bc2_ BK144.out; have hfz8_0 := blk_frozen BK144.out 0; have hfz8_1 := blk_frozen BK144.out 1; have hfz8_2 := blk_frozen BK144.out 2) | ((with_reducible refine gate_callee (f := 35) rfl ?_); refine goesL_ (some 7) rfl rfl Try.func35 (by kernel_rfl) rfl #[.agg #[.int .i64 a0_0, .int .i64 a0_1, .int .i64 a0_2]] rfl q140_ ?_; (with_reducible refine (integral_most.calls k a0_0 a0_1 a0_2 t145 false _ A2.out).mono ?_); rintro e w9 ⟨rfl, hb⟩; refine ⟨_, rfl, ?_⟩; have n0_ := am_ (blk_below (g := gb144) (o := .cells #[.int .i64 a0_0, .int .i64 a0_1, .int .i64 a0_2] 40 (0, 0)) (by (with_reducible repeat (first | refine blk_drewN ?_ _ | refine blk_drew ?_ | refine blk_alloc ?_ _)); exact BK144.out) hb); have n1_ := am_ (below_step q110_ hb); clear BK144 HB; have BK144 := n0_; have HB := n1_; clear n0_ n1_; (try clear hb); (try clear hb2); (try clear hk); (try clear hi)))
  go_ret
  exact ⟨q211_, q110_⟩


def plane_size.f (a0 : Int) (a1 : Int) (a2 : Int) : Option (Bool) := (extent_Mul.f a0 a1 4096).bind fun bt147 => (if bt147.2 = true then (if a0 ≥ 1 then (if a0 ≤ 128 then (if a1 ≥ 1 then (if a1 ≤ 128 then (if a2 ≥ 1 then (some (decide (a2 ≤ 4294967296))) else (some false)) else (some false)) else (some false)) else (some false)) else (some false)) else (some false))
set_option maxHeartbeats 8000000 in
set_option maxRecDepth 100000 in
theorem plane_size.calls (a0 : Int) (a1 : Int) (a2 : Int) (r : Bool) (w : World) (h : plane_size.f a0 a1 a2 = some r) :
  Calls Try.prog 51 #[.int .i64 a0, .int .i64 a1, .int .i64 a2] w fun e w' => e = .returned (.bool r) ∧ Drawn0 w w' := by
 have H : ((extent_Mul.f a0 a1 4096).bind fun bt147 => (if bt147.2 = true then (if a0 ≥ 1 then (if a0 ≤ 128 then (if a1 ≥ 1 then (if a1 ≤ 128 then (if a2 ≥ 1 then (some (decide (a2 ≤ 4294967296))) else (some false)) else (some false)) else (some false)) else (some false)) else (some false)) else (some false))) = some r := h; clear h; replace H := Option.bind_eq_some_iff.mp H; obtain ⟨⟨t147, t148⟩, A40, H⟩ := H; replace H : (if t148 = true then (if a0 ≥ 1 then (if a0 ≤ 128 then (if a1 ≥ 1 then (if a1 ≤ 128 then (if a2 ≥ 1 then (some (decide (a2 ≤ 4294967296))) else (some false)) else (some false)) else (some false)) else (some false)) else (some false)) else (some false)) = some r := H; have A4 := am_ A40; clear A40
 by_cases c5 : t148 = true
 ·subst c5
  have H1 : (if a0 ≥ 1 then (if a0 ≤ 128 then (if a1 ≥ 1 then (if a1 ≤ 128 then (if a2 ≥ 1 then (some (decide (a2 ≤ 4294967296))) else (some false)) else (some false)) else (some false)) else (some false)) else (some false)) = some r := by rw [if_pos rfl] at H; exact H
  clear H; have H := H1; clear H1
  by_cases c6 : a0 ≥ 1
  ·rw [if_pos c6] at H
   have c6b0 : decide (1 ≤ a0) = true := decide_eq_true c6; clear c6
   by_cases c7 : a0 ≤ 128
   ·rw [if_pos c7] at H
    have c7b0 : decide (a0 ≤ 128) = true := decide_eq_true c7; clear c7
    by_cases c8 : a1 ≥ 1
    ·rw [if_pos c8] at H
     have c8b0 : decide (1 ≤ a1) = true := decide_eq_true c8; clear c8
     by_cases c9 : a1 ≤ 128
     ·rw [if_pos c9] at H
      have c9b0 : decide (a1 ≤ 128) = true := decide_eq_true c9; clear c9
      by_cases c10 : a2 ≥ 1
      ·rw [if_pos c10] at H
       have c10b0 : decide (1 ≤ a2) = true := decide_eq_true c10; clear c10; obtain rfl := Option.some.inj H
       go_enter Try.func51, Try.ntmps51
       go_wp2_with (first | ((with_reducible refine gate_callee (f := 54) rfl ?_); refine goesL_ (some 12) rfl rfl Try.func54 (by kernel_rfl) rfl #[.int .i64 a0, .int .i64 a1, .int .i64 4096] rfl q140_ ?_; (with_reducible refine (extent_Mul.calls a0 a1 4096 t147 true _ A4.out).mono ?_); rintro e w' ⟨rfl, ⟨nd, rfl⟩⟩; refine ⟨_, rfl, ?_⟩))
       go_ret
       exact ⟨q217_, q213_⟩
      ·rw [if_neg c10] at H
       have c10b0 : decide (1 ≤ a2) = false := decide_eq_false c10; clear c10; obtain rfl := Option.some.inj H
       go_enter Try.func51, Try.ntmps51
       go_wp2_with (first | ((with_reducible refine gate_callee (f := 54) rfl ?_); refine goesL_ (some 12) rfl rfl Try.func54 (by kernel_rfl) rfl #[.int .i64 a0, .int .i64 a1, .int .i64 4096] rfl q140_ ?_; (with_reducible refine (extent_Mul.calls a0 a1 4096 t147 true _ A4.out).mono ?_); rintro e w' ⟨rfl, ⟨nd, rfl⟩⟩; refine ⟨_, rfl, ?_⟩))
       go_ret
       exact ⟨q217_, q213_⟩
     ·rw [if_neg c9] at H
      have c9b0 : decide (a1 ≤ 128) = false := decide_eq_false c9; clear c9; obtain rfl := Option.some.inj H
      go_enter Try.func51, Try.ntmps51
      go_wp2_with (first | ((with_reducible refine gate_callee (f := 54) rfl ?_); refine goesL_ (some 12) rfl rfl Try.func54 (by kernel_rfl) rfl #[.int .i64 a0, .int .i64 a1, .int .i64 4096] rfl q140_ ?_; (with_reducible refine (extent_Mul.calls a0 a1 4096 t147 true _ A4.out).mono ?_); rintro e w' ⟨rfl, ⟨nd, rfl⟩⟩; refine ⟨_, rfl, ?_⟩))
      go_ret
      exact ⟨q217_, q213_⟩
    ·rw [if_neg c8] at H
     have c8b0 : decide (1 ≤ a1) = false := decide_eq_false c8; clear c8; obtain rfl := Option.some.inj H
     go_enter Try.func51, Try.ntmps51
     go_wp2_with (first | ((with_reducible refine gate_callee (f := 54) rfl ?_); refine goesL_ (some 12) rfl rfl Try.func54 (by kernel_rfl) rfl #[.int .i64 a0, .int .i64 a1, .int .i64 4096] rfl q140_ ?_; (with_reducible refine (extent_Mul.calls a0 a1 4096 t147 true _ A4.out).mono ?_); rintro e w' ⟨rfl, ⟨nd, rfl⟩⟩; refine ⟨_, rfl, ?_⟩))
     go_ret
     exact ⟨q217_, q213_⟩
   ·rw [if_neg c7] at H
    have c7b0 : decide (a0 ≤ 128) = false := decide_eq_false c7; clear c7; obtain rfl := Option.some.inj H
    go_enter Try.func51, Try.ntmps51
    go_wp2_with (first | ((with_reducible refine gate_callee (f := 54) rfl ?_); refine goesL_ (some 12) rfl rfl Try.func54 (by kernel_rfl) rfl #[.int .i64 a0, .int .i64 a1, .int .i64 4096] rfl q140_ ?_; (with_reducible refine (extent_Mul.calls a0 a1 4096 t147 true _ A4.out).mono ?_); rintro e w' ⟨rfl, ⟨nd, rfl⟩⟩; refine ⟨_, rfl, ?_⟩))
    go_ret
    exact ⟨q217_, q213_⟩
  ·rw [if_neg c6] at H
   have c6b0 : decide (1 ≤ a0) = false := decide_eq_false c6; clear c6; obtain rfl := Option.some.inj H
   go_enter Try.func51, Try.ntmps51
   go_wp2_with (first | ((with_reducible refine gate_callee (f := 54) rfl ?_); refine goesL_ (some 12) rfl rfl Try.func54 (by kernel_rfl) rfl #[.int .i64 a0, .int .i64 a1, .int .i64 4096] rfl q140_ ?_; (with_reducible refine (extent_Mul.calls a0 a1 4096 t147 true _ A4.out).mono ?_); rintro e w' ⟨rfl, ⟨nd, rfl⟩⟩; refine ⟨_, rfl, ?_⟩))
   go_ret
   exact ⟨q217_, q213_⟩
 ·replace c5 := Bool.eq_false_iff.mpr c5
  subst c5; have H1 : (some false) = some r := by rw [if_neg (show ¬ (false = true) by decide)] at H; exact H
  clear H; have H := H1; clear H1; obtain rfl := Option.some.inj H
  go_enter Try.func51, Try.ntmps51
  go_wp2_with (first | ((with_reducible refine gate_callee (f := 54) rfl ?_); refine goesL_ (some 12) rfl rfl Try.func54 (by kernel_rfl) rfl #[.int .i64 a0, .int .i64 a1, .int .i64 4096] rfl q140_ ?_; (with_reducible refine (extent_Mul.calls a0 a1 4096 t147 false _ A4.out).mono ?_); rintro e w' ⟨rfl, ⟨nd, rfl⟩⟩; refine ⟨_, rfl, ?_⟩))
  go_ret
  exact ⟨q217_, q213_⟩


mutual
def plane_Valid.j0 : Nat → Bool → Int → Int → Int → List Int → Option (Bool)
 | 0, _, _, _, _, _ => none
 | k + 1, x23, x150000, x150001, x150002, x150003 => if x23 = true then (some false) else (plane_Valid.l0 k x150003 (x150003.length : Int) 0 x150000 x150001 x150002 x150003)
def plane_Valid.l0 : Nat → List Int → Int → Int → Int → Int → Int → List Int → Option (Bool)
 | 0, _, _, _, _, _, _, _ => none
 | k + 1, x25, x26, x27, x150000, x150001, x150002, x150003 => if x27 < x26 then (if 0 ≤ x27 then (if x27 < (x25.length : Int) then (if (rd x25 x27) < 0 then (some false) else (if (rd x25 x27) > x150002 then (some false) else (plane_Valid.l0 k x25 x26 (wrap64 (x27 + 1)) x150000 x150001 x150002 x150003))) else (none)) else (none)) else (some true)
end
def plane_Valid.f (k : Nat) (a0_0 : Int) (a0_1 : Int) (a0_2 : Int) (l0_3 : List Int) : Option (Bool) := (plane_size.f a0_0 a0_1 a0_2).bind fun t150 => (if t150 = true then (plane_Valid.j0 k ((l0_3.length : Int) != (wrap64 (a0_0 * a0_1))) a0_0 a0_1 a0_2 l0_3) else (plane_Valid.j0 k true a0_0 a0_1 a0_2 l0_3))
theorem plane_Valid.mono_l : ∀ k, (∀ y0 y1 y2 y3 y4, LeO (plane_Valid.j0 k y0 y1 y2 y3 y4) (plane_Valid.j0 (k + 1) y0 y1 y2 y3 y4)) ∧ (∀ y0 y1 y2 y3 y4 y5 y6, LeO (plane_Valid.l0 k y0 y1 y2 y3 y4 y5 y6) (plane_Valid.l0 (k + 1) y0 y1 y2 y3 y4 y5 y6))
 | 0 => ⟨fun _ _ _ _ _ r h => by simp [plane_Valid.j0] at h, fun _ _ _ _ _ _ _ r h => by simp [plane_Valid.l0] at h⟩
 | k + 1 => by
  obtain ⟨ih0, ih1⟩ := plane_Valid.mono_l k; refine ⟨?_, ?_⟩
  ·intro y0 y1 y2 y3 y4
   unfold plane_Valid.j0
   repeat' first
   | (with_reducible exact ih0 _ _ _ _ _)
   | (with_reducible exact ih1 _ _ _ _ _ _ _)
   | (with_reducible exact LeO.refl _)
   | (with_reducible exact LeO.none _)
   | (with_reducible refine LeO.ite ?_ ?_)
   | (with_reducible refine LeO.bind ?_ (fun _ => ?_))
   | exact ih0 _ _ _ _ _
   | exact ih1 _ _ _ _ _ _ _
   | exact LeO.none _
   | refine LeO.ite ?_ ?_
   | refine LeO.bind ?_ (fun _ => ?_)
  ·intro y0 y1 y2 y3 y4 y5 y6
   unfold plane_Valid.l0
   repeat' first
   | (with_reducible exact ih0 _ _ _ _ _)
   | (with_reducible exact ih1 _ _ _ _ _ _ _)
   | (with_reducible exact LeO.refl _)
   | (with_reducible exact LeO.none _)
   | (with_reducible refine LeO.ite ?_ ?_)
   | (with_reducible refine LeO.bind ?_ (fun _ => ?_))
   | exact ih0 _ _ _ _ _
   | exact ih1 _ _ _ _ _ _ _
   | exact LeO.none _
   | refine LeO.ite ?_ ?_
   | refine LeO.bind ?_ (fun _ => ?_)
theorem plane_Valid.mono : ∀ a0 a1 a2 a3 k, LeO (plane_Valid.f k a0 a1 a2 a3) (plane_Valid.f (k + 1) a0 a1 a2 a3) := by
 intro a0 a1 a2 a3 k; obtain ⟨ih0, ih1⟩ := plane_Valid.mono_l k; unfold plane_Valid.f
 repeat' first
   | (with_reducible exact ih0 _ _ _ _ _)
   | (with_reducible exact ih1 _ _ _ _ _ _ _)
   | (with_reducible exact LeO.refl _)
   | (with_reducible exact LeO.none _)
   | (with_reducible refine LeO.ite ?_ ?_)
   | (with_reducible refine LeO.bind ?_ (fun _ => ?_))
   | exact ih0 _ _ _ _ _
   | exact ih1 _ _ _ _ _ _ _
   | exact LeO.none _
   | refine LeO.ite ?_ ?_
   | refine LeO.bind ?_ (fun _ => ?_)
set_option maxHeartbeats 8000000 in
set_option maxRecDepth 100000 in
theorem plane_Valid.calls (k : Nat) (a0_0 : Int) (a0_1 : Int) (a0_2 : Int) (A0_3 : Option Addr) (c0_3 : Nat) (l0_3 : List Int) (r : Bool) (w : World) (hr0_3 : Kd.C (Kd.int .i64) w A0_3 l0_3.length l0_3) (hc0_3 : l0_3.length ≤ c0_3) (h : plane_Valid.f k a0_0 a0_1 a0_2 l0_3 = some r) :
  Calls Try.prog 31 #[.agg #[.int .i64 a0_0, .int .i64 a0_1, .int .i64 a0_2, .slice A0_3 l0_3.length c0_3]] w fun e w' => e = .returned (.bool r) ∧ Below w.heap.size w w' := by
 have hu26 := Try.underlying26; have HR0_3 := am_ hr0_3; have HC0_3 := am_ hc0_3; clear hr0_3 hc0_3; have HB := am_ (Below.refl w.heap.size w); have H : ((plane_size.f a0_0 a0_1 a0_2).bind fun t150 => (if t150 = true then (plane_Valid.j0 k ((l0_3.length : Int) != (wrap64 (a0_0 * a0_1))) a0_0 a0_1 a0_2 l0_3) else (plane_Valid.j0 k true a0_0 a0_1 a0_2 l0_3))) = some r := h; clear h; have HC2 := am_ H; clear H
 go_enter Try.func31, Try.ntmps31
 go_upto_region 1 with (first | ((with_reducible refine gate_dst (N := 1) rfl ?_); (try (refine gate_guard (by rfl) ?_; dsimp only)); refine box_event ?hg (N := 1) ?hd (cs := #[.int .i64 a0_0, .int .i64 a0_1, .int .i64 a0_2, .slice A0_3 l0_3.length c0_3]) (t := 26) ?hr ?_; (case hd => rfl); (case hg => rfl); (case hr => first | (go_simp; done) | (go_simp; rfl)); intro gb149 hg w3 hbox hb; have n0_ := am_ (below_step q143_ hb); have n1_ := am_ (hbox); have n2_ := am_ ((q108_ : w.heap.size ≤ gb149)); have n3_ := am_ ((q108_ : w.heap.size ≤ gb149)); clear HB; have HB := n0_; have BK149 := n1_; have GW149 := n2_; have GE149 := n3_; clear n0_ n1_ n2_ n3_; clear hb hbox hg))
 (try simp only [Act.put, la_, lz_, ls_])
 go_cut [23] (fun v23 wc => ∃ (kq : Nat) (x23_1 : Bool), v23 = .bool x23_1 ∧ Aside0 (plane_Valid.j0 kq x23_1 a0_0 a0_1 a0_2 l0_3 = some r) ∧ Aside0 (kq ≤ k) ∧ Aside0 (wc.heap[gb149]? = some (.cells #[.int .i64 a0_0, .int .i64 a0_1, .int .i64 a0_2, (.slice A0_3 l0_3.length c0_3)] 26 (0, 0))) ∧ Aside0 (Below w.heap.size w wc))
 case first =>
  have H := HC2.out; clear HC2; replace H := Option.bind_eq_some_iff.mp H; obtain ⟨t150, A40, H⟩ := H; replace H : (if t150 = true then (plane_Valid.j0 k ((l0_3.length : Int) != (wrap64 (a0_0 * a0_1))) a0_0 a0_1 a0_2 l0_3) else (plane_Valid.j0 k true a0_0 a0_1 a0_2 l0_3)) = some r := H; have A4 := am_ A40; clear A40
  by_cases c5 : t150 = true
  ·subst c5
   have H1 : (plane_Valid.j0 k ((l0_3.length : Int) != (wrap64 (a0_0 * a0_1))) a0_0 a0_1 a0_2 l0_3) = some r := by rw [if_pos rfl] at H; exact H
   clear H; have H := H1; clear H1; have H' := am_ H; clear H; have hcz6_0 := bc0_ BK149.out; have hcz6_1 := bc1_ BK149.out; have hcz6_2 := bc2_ BK149.out; have hcz6_3 := bc3_ BK149.out; have hfz6_0 := blk_frozen BK149.out 0; have hfz6_1 := blk_frozen BK149.out 1; have hfz6_2 := blk_frozen BK149.out 2; have hfz6_3 := blk_frozen BK149.out 3
   go_wp2_with (first | ((with_reducible refine gate_callee (f := 51) rfl ?_); refine goesL_ (some 11) rfl rfl Try.func51 (by kernel_rfl) rfl #[.int .i64 a0_0, .int .i64 a0_1, .int .i64 a0_2] rfl q140_ ?_; (with_reducible refine (plane_size.calls a0_0 a0_1 a0_2 true _ A4.out).mono ?_); rintro e w' ⟨rfl, ⟨nd, rfl⟩⟩; refine ⟨_, rfl, ?_⟩))
   go_meet
   case rel => exact ⟨_, (((l0_3.length : Int) != (wrap64 (a0_0 * a0_1)))), q217_, H', ⟨by first | omega | exact Nat.le_refl _⟩, ⟨q148_⟩, ⟨q111_⟩⟩
  ·replace c5 := Bool.eq_false_iff.mpr c5
   subst c5; have H1 : (plane_Valid.j0 k true a0_0 a0_1 a0_2 l0_3) = some r := by rw [if_neg (show ¬ (false = true) by decide)] at H; exact H
   clear H; have H := H1; clear H1; have H' := am_ H; clear H; have hcz7_0 := bc0_ BK149.out; have hcz7_1 := bc1_ BK149.out; have hcz7_2 := bc2_ BK149.out; have hcz7_3 := bc3_ BK149.out; have hfz7_0 := blk_frozen BK149.out 0; have hfz7_1 := blk_frozen BK149.out 1; have hfz7_2 := blk_frozen BK149.out 2; have hfz7_3 := blk_frozen BK149.out 3
   go_wp2_with (first | ((with_reducible refine gate_callee (f := 51) rfl ?_); refine goesL_ (some 11) rfl rfl Try.func51 (by kernel_rfl) rfl #[.int .i64 a0_0, .int .i64 a0_1, .int .i64 a0_2] rfl q140_ ?_; (with_reducible refine (plane_size.calls a0_0 a0_1 a0_2 false _ A4.out).mono ?_); rintro e w' ⟨rfl, ⟨nd, rfl⟩⟩; refine ⟨_, rfl, ?_⟩))
   go_meet
   case rel => exact ⟨_, (true), q217_, H', ⟨by first | omega | exact Nat.le_refl _⟩, ⟨q148_⟩, ⟨q111_⟩⟩
 case rest =>
  clear HC2; (try clear p2); (try clear c3); (try clear c5); (try clear p6); (try clear hcz6_0 hcz6_1 hcz6_2 hcz6_3); (try clear hcz7_0 hcz7_1 hcz7_2 hcz7_3); (try clear hfz6_0 hfz6_1 hfz6_2 hfz6_3); (try clear hfz7_0 hfz7_1 hfz7_2 hfz7_3); obtain ⟨kq, x23_1, rfl, HA, HJ1, BK149, HB⟩ := hcut; cases kq with
  | zero => exact absurd HA.out (by simp [plane_Valid.j0])
  | succ kj1 =>
   have H := HA.out; clear HA; simp only [plane_Valid.j0] at H
   by_cases c8 : x23_1 = true
   ·subst c8
    have H1 : (some false) = some r := by rw [if_pos rfl] at H; exact H
    clear H; have H := H1; clear H1; obtain rfl := Option.some.inj H
    go_wp2
    go_ret
    exact ⟨q211_, q111_⟩
   ·replace c8 := Bool.eq_false_iff.mpr c8
    subst c8; have H1 : (plane_Valid.l0 kj1 l0_3 (l0_3.length : Int) 0 a0_0 a0_1 a0_2 l0_3) = some r := by rw [if_neg (show ¬ (false = true) by decide)] at H; exact H
    clear H; have H := H1; clear H1; have H' := am_ H; clear H; have hcz9_0 := bc0_ BK149.out; have hcz9_1 := bc1_ BK149.out; have hcz9_2 := bc2_ BK149.out; have hcz9_3 := bc3_ BK149.out; have hfz9_0 := blk_frozen BK149.out 0; have hfz9_1 := blk_frozen BK149.out 1; have hfz9_2 := blk_frozen BK149.out 2; have hfz9_3 := blk_frozen BK149.out 3
    go_wp2
    go_loopg [27] kj1 (fun kq v27 w' => ∃ (x27_2 : Int), v27 = .int .i64 x27_2 ∧ Aside0 (plane_Valid.l0 kq l0_3 (l0_3.length : Int) x27_2 a0_0 a0_1 a0_2 l0_3 = some r) ∧ Aside0 (kq ≤ kj1) ∧ Aside0 (w'.heap[gb149]? = some (.cells #[.int .i64 a0_0, .int .i64 a0_1, .int .i64 a0_2, (.slice A0_3 l0_3.length c0_3)] 26 (0, 0))) ∧ Aside0 (Below w.heap.size w w'))
    case atStart => exact ⟨(0), q217_, H', ⟨Nat.le_refl _⟩, ⟨q148_⟩, ⟨q111_⟩⟩
    case round =>
     clear H'; (try clear p2); (try clear c3); (try clear c5); (try clear p6); (try clear c8); (try clear hcz6_0 hcz6_1 hcz6_2 hcz6_3); (try clear hcz7_0 hcz7_1 hcz7_2 hcz7_3); (try clear hcz9_0 hcz9_1 hcz9_2 hcz9_3); (try clear hfz6_0 hfz6_1 hfz6_2 hfz6_3); (try clear hfz7_0 hfz7_1 hfz7_2 hfz7_3); (try clear hfz9_0 hfz9_1 hfz9_2 hfz9_3); (try clear p2); (try clear p6); obtain ⟨x27_2, rfl, HA, HK2, BK149, HB⟩ := hrel; cases gk with
     | zero => exact absurd HA.out (by simp [plane_Valid.l0])
     | succ k2 =>
      have H := HA.out; clear HA; simp only [plane_Valid.l0] at H
      by_cases c10 : x27_2 < (l0_3.length : Int)
      ·rw [if_pos c10] at H
       have c10b0 : decide (x27_2 < (l0_3.length : Int)) = true := decide_eq_true c10; clear c10
       by_cases c11 : 0 ≤ x27_2
       ·rw [if_pos c11] at H
        have c11b0 : decide (0 ≤ x27_2) = true := decide_eq_true c11; clear c11
        by_cases c12 : x27_2 < (l0_3.length : Int)
        ·rw [if_pos c12] at H
         have c12b0 : decide (x27_2 < (l0_3.length : Int)) = true := decide_eq_true c12; clear c12
         by_cases c13 : (rd l0_3 x27_2) < 0
         ·rw [if_pos c13] at H
          have c13b0 : decide ((rd l0_3 x27_2) < 0) = true := decide_eq_true c13; clear c13; obtain rfl := Option.some.inj H; have p151 : 0 ≤ (x27_2 : Int) := of_decide_eq_true q216_; have q151 : x27_2 < (l0_3.length : Int) := of_decide_eq_true q216_; obtain ⟨ad151, e151, hx151_0⟩ := Kd.at_int HR0_3.out x27_2 p151 q151; cases e151; replace hx151_0 := (HB.out.cell (World.block_lt_of_cell? w _ hx151_0)).trans hx151_0; replace p151 := eq_true p151; replace q151 := eq_true q151
          go_wp2
          go_ret
          exact ⟨q211_, q111_⟩
         ·rw [if_neg c13] at H
          have c13b0 : decide ((rd l0_3 x27_2) < 0) = false := decide_eq_false c13; clear c13
          by_cases c14 : (rd l0_3 x27_2) > a0_2
          ·rw [if_pos c14] at H
           have c14b0 : decide (a0_2 < (rd l0_3 x27_2)) = true := decide_eq_true c14; clear c14; obtain rfl := Option.some.inj H; have p151 : 0 ≤ (x27_2 : Int) := of_decide_eq_true q216_; have q151 : x27_2 < (l0_3.length : Int) := of_decide_eq_true q216_; obtain ⟨ad151, e151, hx151_0⟩ := Kd.at_int HR0_3.out x27_2 p151 q151; cases e151; replace hx151_0 := (HB.out.cell (World.block_lt_of_cell? w _ hx151_0)).trans hx151_0; replace p151 := eq_true p151; replace q151 := eq_true q151; have hcz15_0 := bc0_ BK149.out; have hcz15_1 := bc1_ BK149.out; have hcz15_2 := bc2_ BK149.out; have hcz15_3 := bc3_ BK149.out; have hfz15_0 := blk_frozen BK149.out 0; have hfz15_1 := blk_frozen BK149.out 1; have hfz15_2 := blk_frozen BK149.out 2; have hfz15_3 := blk_frozen BK149.out 3
           go_wp2
           go_ret
           exact ⟨q211_, q111_⟩
          ·rw [if_neg c14] at H
           have c14b0 : decide (a0_2 < (rd l0_3 x27_2)) = false := decide_eq_false c14; clear c14; have H' := am_ H; clear H; have p151 : 0 ≤ (x27_2 : Int) := of_decide_eq_true q216_; have q151 : x27_2 < (l0_3.length : Int) := of_decide_eq_true q216_; obtain ⟨ad151, e151, hx151_0⟩ := Kd.at_int HR0_3.out x27_2 p151 q151; cases e151; replace hx151_0 := (HB.out.cell (World.block_lt_of_cell? w _ hx151_0)).trans hx151_0; replace p151 := eq_true p151; replace q151 := eq_true q151; have hcz16_0 := bc0_ BK149.out; have hcz16_1 := bc1_ BK149.out; have hcz16_2 := bc2_ BK149.out; have hcz16_3 := bc3_ BK149.out; have hfz16_0 := blk_frozen BK149.out 0; have hfz16_1 := blk_frozen BK149.out 1; have hfz16_2 := blk_frozen BK149.out 2; have hfz16_3 := blk_frozen BK149.out 3
           go_wp2
           go_roundg k2
           case measure => have := HJ1.out; have := HK2.out; omega
           case rel => exact ⟨(wrap64 (x27_2 + 1)), q217_, H', ⟨by have := HJ1.out; have := HK2.out; omega⟩, ⟨q148_⟩, ⟨q111_⟩⟩
        ·rw [if_neg c12] at H
         exact absurd H (by simp)
       ·rw [if_neg c11] at H
        exact absurd H (by simp)
      ·rw [if_neg c10] at H
       have c10b0 : decide (x27_2 < (l0_3.length : Int)) = false := decide_eq_false c10; clear c10; obtain rfl := Option.some.inj H
       go_wp2
       go_ret
       exact ⟨q211_, q111_⟩


def integral_shape.f (a0_0 : Int) (a0_1 : Int) (a0_2 : Int) (l0_3 : List Int) : Option (Int × Int × Int) := some (a0_0, a0_1, a0_2)
set_option maxHeartbeats 8000000 in
set_option maxRecDepth 100000 in
theorem integral_shape.calls (a0_0 : Int) (a0_1 : Int) (a0_2 : Int) (A0_3 : Option Addr) (c0_3 : Nat) (l0_3 : List Int) (r1 : Int) (r2 : Int) (r3 : Int) (w : World) (hr0_3 : Kd.C (Kd.int .i64) w A0_3 l0_3.length l0_3) (hc0_3 : l0_3.length ≤ c0_3) (h : integral_shape.f a0_0 a0_1 a0_2 l0_3 = some (r1, r2, r3)) :
  Calls Try.prog 45 #[.agg #[.int .i64 a0_0, .int .i64 a0_1, .int .i64 a0_2, .slice A0_3 l0_3.length c0_3]] w fun e w' => e = .returned (.agg #[.int .i64 r1, .int .i64 r2, .int .i64 r3]) ∧ Below w.heap.size w w' := by
 have hu26 := Try.underlying26; have hu40 := Try.underlying40; have HR0_3 := am_ hr0_3; have HC0_3 := am_ hc0_3; clear hr0_3 hc0_3; have HB := am_ (Below.refl w.heap.size w); have H : (some (a0_0, a0_1, a0_2)) = some (r1, r2, r3) := h; clear h; simp only [Option.some.injEq, Prod.mk.injEq] at H; obtain ⟨rfl, rfl, rfl⟩ := H
 go_enter Try.func45, Try.ntmps45
 go_wp2_with (first | ((with_reducible refine gate_dst (N := 1) rfl ?_); refine box_event ?hg (N := 1) ?hd (cs := #[.int .i64 a0_0, .int .i64 a0_1, .int .i64 a0_2, .slice A0_3 l0_3.length c0_3]) (t := 26) ?hr ?_; (case hd => rfl); (case hg => rfl); (case hr => first | (go_simp; done) | (go_simp; rfl)); intro gb152 hg w2 hbox hb; have n0_ := am_ (below_step q143_ hb); have n1_ := am_ (hbox); have n2_ := am_ ((q108_ : w.heap.size ≤ gb152)); have n3_ := am_ ((q108_ : w.heap.size ≤ gb152)); clear HB; have HB := n0_; have BK152 := n1_; have GW152 := n2_; have GE152 := n3_; clear n0_ n1_ n2_ n3_; clear hb hbox hg) | ((with_reducible refine gate_dst (N := 2) rfl ?_); refine box_event ?hg (N := 2) ?hd (cs := #[.int .i64 0, .int .i64 0, .int .i64 0]) (t := 40) ?hr ?_; (case hd => rfl); (case hg => rfl); (case hr => first | (go_simp; done) | (go_simp; rfl)); intro gb153 hg w3 hbox hb; have n0_ := am_ (blk_below (g := gb152) (o := .cells #[.int .i64 a0_0, .int .i64 a0_1, .int .i64 a0_2, .slice A0_3 l0_3.length c0_3] 26 (0, 0)) q149_ hb); have n1_ := am_ (below_step q112_ hb); have n2_ := am_ (hbox); have n3_ := am_ ((by rw [hg]; exact (below_size q112_) : w.heap.size ≤ gb153)); have n4_ := am_ ((by rw [hg]; exact (below_size q112_) : w.heap.size ≤ gb153)); have n5_ := am_ ((by rw [hg]; exact Nat.ne_of_lt (blk_lt (g := gb152) (o := .cells #[.int .i64 a0_0, .int .i64 a0_1, .int .i64 a0_2, .slice A0_3 l0_3.length c0_3] 26 (0, 0)) q149_) : gb152 ≠ gb153)); have n6_ := am_ ((by rw [hg]; exact Nat.ne_of_gt (blk_lt (g := gb152) (o := .cells #[.int .i64 a0_0, .int .i64 a0_1, .int .i64 a0_2, .slice A0_3 l0_3.length c0_3] 26 (0, 0)) q149_) : gb153 ≠ gb152)); clear BK152 HB; have BK152 := n0_; have HB := n1_; have BK153 := n2_; have GW153 := n3_; have GE153 := n4_; have NB152_153 := n5_; have NB153_152 := n6_; clear n0_ n1_ n2_ n3_ n4_ n5_ n6_; clear hb hbox hg; have hnb4 := NB152_153.out; have hnc4 := NB153_152.out; have hcz5_0 := bc0_ BK152.out; have hcz5_1 := bc1_ BK152.out; have hcz5_2 := bc2_ BK152.out; have hcz5_3 := bc3_ BK152.out; have hfz5_0 := blk_frozen BK152.out 0; have hfz5_1 := blk_frozen BK152.out 1; have hfz5_2 := blk_frozen BK152.out 2; have hfz5_3 := blk_frozen BK152.out 3; have hcz6_0 := bc0_ BK153.out; have hcz6_1 := bc1_ BK153.out; have hcz6_2 := bc2_ BK153.out; have hfz6_0 := blk_frozen BK153.out 0; have hfz6_1 := blk_frozen BK153.out 1; have hfz6_2 := blk_frozen BK153.out 2))
 refine bodyPost_ret (results_cell_row rfl _ _ gb153 40 #[.int .i64 a0_0, .int .i64 a0_1, .int .i64 a0_2] (0, 0) _ rfl (by (with_reducible repeat (first | refine blk_drewN ?_ _ | refine blk_drew ?_ | refine blk_alloc ?_ _)); refine blk_put (cs := #[.int .i64 a0_0, .int .i64 a0_1, .int .i64 0]) ?_ 2 _ rfl; (with_reducible repeat (first | refine blk_drewN ?_ _ | refine blk_drew ?_ | refine blk_alloc ?_ _)); refine blk_put (cs := #[.int .i64 a0_0, .int .i64 0, .int .i64 0]) ?_ 1 _ rfl; (with_reducible repeat (first | refine blk_drewN ?_ _ | refine blk_drew ?_ | refine blk_alloc ?_ _)); refine blk_put (cs := #[.int .i64 0, .int .i64 0, .int .i64 0]) ?_ 0 _ rfl; (with_reducible repeat (first | refine blk_drewN ?_ _ | refine blk_drew ?_ | refine blk_alloc ?_ _)); exact BK153.out) Try.underlying40 rfl (by kernel_rfl)) rfl ?_; exact ⟨q211_, by repeat (first | (with_reducible first | exact HB.out | apply below_alloc | apply pw_below_drewN | apply below_drew1 | refine below_set ?_ GE152.out | refine below_set ?_ GE153.out) | exact HB.out)⟩


def integral_check.f (k : Nat) (a0_0 : Int) (a0_1 : Int) (a0_2 : Int) (l0_3 : List Int) : Option (Int) := (plane_Valid.f k a0_0 a0_1 a0_2 l0_3).bind fun t155 => (if t155 = true then ((integral_shape.f a0_0 a0_1 a0_2 l0_3).bind fun bt156 => ((integral_Check.f k bt156.1 bt156.2.1 bt156.2.2).bind fun t159 => (some t159))) else (some 1))
theorem integral_check.mono : ∀ a0 a1 a2 a3 k, LeO (integral_check.f k a0 a1 a2 a3) (integral_check.f (k + 1) a0 a1 a2 a3) := by
 intro a0 a1 a2 a3 k; unfold integral_check.f
 repeat' first
   | (with_reducible exact integral_Check.mono _ _ _ _)
   | (with_reducible exact plane_Valid.mono _ _ _ _ _)
   | (with_reducible exact LeO.refl _)
   | (with_reducible exact LeO.none _)
   | (with_reducible refine LeO.ite ?_ ?_)
   | (with_reducible refine LeO.bind ?_ (fun _ => ?_))
   | exact integral_Check.mono _ _ _ _
   | exact plane_Valid.mono _ _ _ _ _
   | exact LeO.none _
   | refine LeO.ite ?_ ?_
   | refine LeO.bind ?_ (fun _ => ?_)
set_option maxHeartbeats 8000000 in
set_option maxRecDepth 100000 in
theorem integral_check.calls (k : Nat) (a0_0 : Int) (a0_1 : Int) (a0_2 : Int) (A0_3 : Option Addr) (c0_3 : Nat) (l0_3 : List Int) (r : Int) (w : World) (hr0_3 : Kd.C (Kd.int .i64) w A0_3 l0_3.length l0_3) (hc0_3 : l0_3.length ≤ c0_3) (h : integral_check.f k a0_0 a0_1 a0_2 l0_3 = some r) :
  Calls Try.prog 29 #[.agg #[.int .i64 a0_0, .int .i64 a0_1, .int .i64 a0_2, .slice A0_3 l0_3.length c0_3]] w fun e w' => e = .returned (.int .i64 r) ∧ Below w.heap.size w w' := by
 have hu26 := Try.underlying26; have HR0_3 := am_ hr0_3; have HC0_3 := am_ hc0_3; clear hr0_3 hc0_3; have HB := am_ (Below.refl w.heap.size w); have H : ((plane_Valid.f k a0_0 a0_1 a0_2 l0_3).bind fun t155 => (if t155 = true then ((integral_shape.f a0_0 a0_1 a0_2 l0_3).bind fun bt156 => ((integral_Check.f k bt156.1 bt156.2.1 bt156.2.2).bind fun t159 => (some t159))) else (some 1))) = some r := h; clear h; replace H := Option.bind_eq_some_iff.mp H; obtain ⟨t155, A20, H⟩ := H; replace H : (if t155 = true then ((integral_shape.f a0_0 a0_1 a0_2 l0_3).bind fun bt156 => ((integral_Check.f k bt156.1 bt156.2.1 bt156.2.2).bind fun t159 => (some t159))) else (some 1)) = some r := H; have A2 := am_ A20; clear A20
 by_cases c3 : t155 = true
 ·subst c3
  have H1 : ((integral_shape.f a0_0 a0_1 a0_2 l0_3).bind fun bt156 => ((integral_Check.f k bt156.1 bt156.2.1 bt156.2.2).bind fun t159 => (some t159))) = some r := by rw [if_pos rfl] at H; exact H
  clear H; have H := H1; clear H1; replace H := Option.bind_eq_some_iff.mp H; obtain ⟨⟨t156, t157, t158⟩, A40, H⟩ := H; replace H : ((integral_Check.f k t156 t157 t158).bind fun t159 => (some t159)) = some r := H; have A4 := am_ A40; clear A40; replace H := Option.bind_eq_some_iff.mp H; obtain ⟨t159, A50, H⟩ := H; replace H : (some t159) = some r := H; have A5 := am_ A50; clear A50; obtain rfl := Option.some.inj H
  go_enter Try.func29, Try.ntmps29
  go_wp2_with (first | ((with_reducible refine gate_dst (N := 1) rfl ?_); refine box_event ?hg (N := 1) ?hd (cs := #[.int .i64 a0_0, .int .i64 a0_1, .int .i64 a0_2, .slice A0_3 l0_3.length c0_3]) (t := 26) ?hr ?_; (case hd => rfl); (case hg => rfl); (case hr => first | (go_simp; done) | (go_simp; rfl)); intro gb154 hg w6 hbox hb; have n0_ := am_ (below_step q143_ hb); have n1_ := am_ (hbox); have n2_ := am_ ((q108_ : w.heap.size ≤ gb154)); have n3_ := am_ ((q108_ : w.heap.size ≤ gb154)); clear HB; have HB := n0_; have BK154 := n1_; have GW154 := n2_; have GE154 := n3_; clear n0_ n1_ n2_ n3_; clear hb hbox hg; have hcz7_0 := bc0_ BK154.out; have hcz7_1 := bc1_ BK154.out; have hcz7_2 := bc2_ BK154.out; have hcz7_3 := bc3_ BK154.out; have hfz7_0 := blk_frozen BK154.out 0; have hfz7_1 := blk_frozen BK154.out 1; have hfz7_2 := blk_frozen BK154.out 2; have hfz7_3 := blk_frozen BK154.out 3) | ((with_reducible refine gate_callee (f := 31) rfl ?_); refine goesL_ (some 4) rfl rfl Try.func31 (by kernel_rfl) rfl #[.agg #[.int .i64 a0_0, .int .i64 a0_1, .int .i64 a0_2, .slice A0_3 l0_3.length c0_3]] rfl q140_ ?_; (with_reducible refine (plane_Valid.calls k a0_0 a0_1 a0_2 _ _ l0_3 true _ ?side1 ?side2 A2.out).mono ?_); (case side1 => repeat (first | exact (Kd.C_below HR0_3.out HB.out) | (with_reducible refine Kd.C_alloc ?_ _) | (with_reducible refine Kd.C_drewN ?_ _) | (with_reducible refine Kd.C_drew ?_))); (case side2 => exact HC0_3.out); rintro e w8 ⟨rfl, hb⟩; refine ⟨_, rfl, ?_⟩; have n0_ := am_ (blk_below (g := gb154) (o := .cells #[.int .i64 a0_0, .int .i64 a0_1, .int .i64 a0_2, .slice A0_3 l0_3.length c0_3] 26 (0, 0)) q150_ hb); have n1_ := am_ (below_step q113_ hb); clear BK154 HB; have BK154 := n0_; have HB := n1_; clear n0_ n1_; (try clear hb); (try clear hb2); (try clear hk); (try clear hi); have hcz9_0 := bc0_ BK154.out; have hcz9_1 := bc1_ BK154.out; have hcz9_2 := bc2_ BK154.out; have hcz9_3 := bc3_ BK154.out; have hfz9_0 := blk_frozen BK154.out 0; have hfz9_1 := blk_frozen BK154.out 1; have hfz9_2 := blk_frozen BK154.out 2; have hfz9_3 := blk_frozen BK154.out 3) | ((with_reducible refine gate_callee (f := 45) rfl ?_); refine goesL_ (some 7) rfl rfl Try.func45 (by kernel_rfl) rfl #[.agg #[.int .i64 a0_0, .int .i64 a0_1, .int .i64 a0_2, .slice A0_3 l0_3.length c0_3]] rfl q140_ ?_; (with_reducible refine (integral_shape.calls a0_0 a0_1 a0_2 _ _ l0_3 t156 t157 t158 _ ?side1 ?side2 A4.out).mono ?_); (case side1 => repeat (first | exact (Kd.C_below HR0_3.out HB.out) | (with_reducible refine Kd.C_alloc ?_ _) | (with_reducible refine Kd.C_drewN ?_ _) | (with_reducible refine Kd.C_drew ?_))); (case side2 => exact HC0_3.out); rintro e w10 ⟨rfl, hb⟩; refine ⟨_, rfl, ?_⟩; have n0_ := am_ (blk_below (g := gb154) (o := .cells #[.int .i64 a0_0, .int .i64 a0_1, .int .i64 a0_2, .slice A0_3 l0_3.length c0_3] 26 (0, 0)) q150_ hb); have n1_ := am_ (below_step q113_ hb); clear BK154 HB; have BK154 := n0_; have HB := n1_; clear n0_ n1_; (try clear hb); (try clear hb2); (try clear hk); (try clear hi)) | ((with_reducible refine gate_callee (f := 15) rfl ?_); refine goesL_ (some 8) rfl rfl Try.func15 (by kernel_rfl) rfl #[.agg #[.int .i64 t156, .int .i64 t157, .int .i64 t158]] rfl q140_ ?_; (with_reducible refine (integral_Check.calls k t156 t157 t158 t159 _ A5.out).mono ?_); rintro e w11 ⟨rfl, hb⟩; refine ⟨_, rfl, ?_⟩; have n0_ := am_ (blk_below (g := gb154) (o := .cells #[.int .i64 a0_0, .int .i64 a0_1, .int .i64 a0_2, .slice A0_3 l0_3.length c0_3] 26 (0, 0)) q150_ hb); have n1_ := am_ (below_step q113_ hb); clear BK154 HB; have BK154 := n0_; have HB := n1_; clear n0_ n1_; (try clear hb); (try clear hb2); (try clear hk); (try clear hi)))
  go_ret
  exact ⟨q211_, q113_⟩
 ·replace c3 := Bool.eq_false_iff.mpr c3
  subst c3; have H1 : (some 1) = some r := by rw [if_neg (show ¬ (false = true) by decide)] at H; exact H
  clear H; have H := H1; clear H1; obtain rfl := Option.some.inj H
  go_enter Try.func29, Try.ntmps29
  go_wp2_with (first | ((with_reducible refine gate_dst (N := 1) rfl ?_); refine box_event ?hg (N := 1) ?hd (cs := #[.int .i64 a0_0, .int .i64 a0_1, .int .i64 a0_2, .slice A0_3 l0_3.length c0_3]) (t := 26) ?hr ?_; (case hd => rfl); (case hg => rfl); (case hr => first | (go_simp; done) | (go_simp; rfl)); intro gb154 hg w12 hbox hb; have n0_ := am_ (below_step q143_ hb); have n1_ := am_ (hbox); have n2_ := am_ ((q108_ : w.heap.size ≤ gb154)); have n3_ := am_ ((q108_ : w.heap.size ≤ gb154)); clear HB; have HB := n0_; have BK154 := n1_; have GW154 := n2_; have GE154 := n3_; clear n0_ n1_ n2_ n3_; clear hb hbox hg; have hcz13_0 := bc0_ BK154.out; have hcz13_1 := bc1_ BK154.out; have hcz13_2 := bc2_ BK154.out; have hcz13_3 := bc3_ BK154.out; have hfz13_0 := blk_frozen BK154.out 0; have hfz13_1 := blk_frozen BK154.out 1; have hfz13_2 := blk_frozen BK154.out 2; have hfz13_3 := blk_frozen BK154.out 3) | ((with_reducible refine gate_callee (f := 31) rfl ?_); refine goesL_ (some 4) rfl rfl Try.func31 (by kernel_rfl) rfl #[.agg #[.int .i64 a0_0, .int .i64 a0_1, .int .i64 a0_2, .slice A0_3 l0_3.length c0_3]] rfl q140_ ?_; (with_reducible refine (plane_Valid.calls k a0_0 a0_1 a0_2 _ _ l0_3 false _ ?side1 ?side2 A2.out).mono ?_); (case side1 => repeat (first | exact (Kd.C_below HR0_3.out HB.out) | (with_reducible refine Kd.C_alloc ?_ _) | (with_reducible refine Kd.C_drewN ?_ _) | (with_reducible refine Kd.C_drew ?_))); (case side2 => exact HC0_3.out); rintro e w14 ⟨rfl, hb⟩; refine ⟨_, rfl, ?_⟩; have n0_ := am_ (blk_below (g := gb154) (o := .cells #[.int .i64 a0_0, .int .i64 a0_1, .int .i64 a0_2, .slice A0_3 l0_3.length c0_3] 26 (0, 0)) q150_ hb); have n1_ := am_ (below_step q113_ hb); clear BK154 HB; have BK154 := n0_; have HB := n1_; clear n0_ n1_; (try clear hb); (try clear hb2); (try clear hk); (try clear hi)))
  go_ret
  exact ⟨q211_, q113_⟩


def rect_Empty.f (a0_0 : Int) (a0_1 : Int) (a0_2 : Int) (a0_3 : Int) : Option (Bool) := some (a0_0 == 0 && (a0_1 == 0 && (a0_2 == 0 && (a0_3 == 0))))
set_option maxHeartbeats 8000000 in
set_option maxRecDepth 100000 in
theorem rect_Empty.calls (a0_0 : Int) (a0_1 : Int) (a0_2 : Int) (a0_3 : Int) (r : Bool) (w : World) (h : rect_Empty.f a0_0 a0_1 a0_2 a0_3 = some r) :
  Calls Try.prog 32 #[.agg #[.int .i64 a0_0, .int .i64 a0_1, .int .i64 a0_2, .int .i64 a0_3]] w fun e w' => e = .returned (.bool r) ∧ Below w.heap.size w w' := by
 have hu32 := Try.underlying32; have HB := am_ (Below.refl w.heap.size w); have H : (some (a0_0 == 0 && (a0_1 == 0 && (a0_2 == 0 && (a0_3 == 0))))) = some r := h; clear h; obtain rfl := Option.some.inj H
 go_enter Try.func32, Try.ntmps32
 go_wp2_with (first | ((with_reducible refine gate_dst (N := 1) rfl ?_); refine box_event ?hg (N := 1) ?hd (cs := #[.int .i64 a0_0, .int .i64 a0_1, .int .i64 a0_2, .int .i64 a0_3]) (t := 32) ?hr ?_; (case hd => rfl); (case hg => rfl); (case hr => first | (go_simp; done) | (go_simp; rfl)); intro gb160 hg w2 hbox hb; have n0_ := am_ (below_step q143_ hb); have n1_ := am_ (hbox); have n2_ := am_ ((q108_ : w.heap.size ≤ gb160)); have n3_ := am_ ((q108_ : w.heap.size ≤ gb160)); clear HB; have HB := n0_; have BK160 := n1_; have GW160 := n2_; have GE160 := n3_; clear n0_ n1_ n2_ n3_; clear hb hbox hg; have hcz3_0 := bc0_ BK160.out; have hcz3_1 := bc1_ BK160.out; have hcz3_2 := bc2_ BK160.out; have hcz3_3 := bc3_ BK160.out; have hfz3_0 := blk_frozen BK160.out 0; have hfz3_1 := blk_frozen BK160.out 1; have hfz3_2 := blk_frozen BK160.out 2; have hfz3_3 := blk_frozen BK160.out 3))
 go_ret
 exact ⟨q211_, by repeat (first | (with_reducible first | exact HB.out | apply below_alloc | apply pw_below_drewN | apply below_drew1 | refine below_set ?_ GE160.out) | exact HB.out)⟩

end Go.Proofs.Ytkipnpgcpohlcaa.PIntegralWhole
