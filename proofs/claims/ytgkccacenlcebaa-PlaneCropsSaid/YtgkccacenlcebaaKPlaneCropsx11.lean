-- Written by a program of the session (wip/tools/pack.py): the printed texts, pruned; checked by Lean.
import Derived.Test.YtgkccacenlcebaaKPlaneCropsa
import Derived.Test.YtgkccacenlcebaaKPlaneCropsx0
import Derived.Test.YtgkccacenlcebaaKPlaneCropsx2
import Derived.Test.YtgkccacenlcebaaKPlaneCropsx3
namespace Go.Proofs.Ytgkccacenlcebaa.PPlaneCrops
open Go.RowKit Go.Proofs.YtgkccacenlcebaaW.PrintWords Go.Proofs.YtgkccacenlcebaaW.PrintLast Go.Proofs.YtgkccacenlcebaaW.PrintMore
attribute [local go_sem] max2_int min2_int max_two min_two max_three min_three max_four min_four   -- for this text's walks alone
set_option linter.unusedVariables false
set_option linter.unusedSimpArgs false
def tilefarmgen_Tape_Plane.f (k : Nat) (s0_0 : List Int) (s0_1 : Int) : Option (Int × Int × Int × List Int × Int) := (tilefarmgen_Tape_Next.f s0_0 s0_1 6).bind fun bt282 => ((tilefarmgen_Tape_Next.f s0_0 bt282.2 5).bind fun bt284 => ((tilefarmgen_Tape_Sized.f k s0_0 bt284.2 (wrap64 (1 + bt282.1)) (wrap64 (1 + bt284.1))).bind fun bt286 => (some (bt286.1, bt286.2.1, bt286.2.2.1, bt286.2.2.2.1, bt286.2.2.2.2))))
theorem tilefarmgen_Tape_Plane.mono : ∀ a0 a1 k, LeO (tilefarmgen_Tape_Plane.f k a0 a1) (tilefarmgen_Tape_Plane.f (k + 1) a0 a1) := by
 intro a0 a1 k; unfold tilefarmgen_Tape_Plane.f
 repeat' first
   | (with_reducible exact tilefarmgen_Tape_Sized.mono _ _ _ _ _)
   | (with_reducible exact LeO.refl _)
   | (with_reducible exact LeO.none _)
   | (with_reducible refine LeO.ite ?_ ?_)
   | (with_reducible refine LeO.bind ?_ (fun _ => ?_))
   | exact tilefarmgen_Tape_Sized.mono _ _ _ _ _
   | exact LeO.none _
   | refine LeO.ite ?_ ?_
   | refine LeO.bind ?_ (fun _ => ?_)
set_option maxHeartbeats 8000000 in
set_option maxRecDepth 100000 in
theorem tilefarmgen_Tape_Plane.calls (k : Nat) (g : Nat) (s0_0 : List Int) (s0_1 : Int) (r1 : Int) (r2 : Int) (r3 : Int) (r4 : List Int) (r5 : Int) (w0 w : World) (hI : IsS54 w0 w g s0_0 s0_1) (hB : Below w0.heap.size w0 w) (h : tilefarmgen_Tape_Plane.f k s0_0 s0_1 = some (r1, r2, r3, r4, r5)) :
  Calls Try.prog 19 #[.pointer (some ⟨g, 0, none⟩)] w fun e w' => ∃ v3_ : Value, e = .returned (.agg #[.int .i64 r1, .int .i64 r2, .int .i64 r3, v3_]) ∧ Kd.R (Kd.int .i64) 3 w' w.heap.size (fun _ => True) v3_ r4 ∧ IsS54 w0 w' g s0_0 r5 ∧ Below w0.heap.size w0 w' ∧ KeepBut w w' g none := by
 have hu26 := Try.underlying26; have HI0 := am_ hI; have HK := am_ (KeepBut.refl w g none); have HL := am_ hB.size; clear hI; have HW0 := am_ hB.size; have HB := am_ hB; clear hB; have H : ((tilefarmgen_Tape_Next.f s0_0 s0_1 6).bind fun bt282 => ((tilefarmgen_Tape_Next.f s0_0 bt282.2 5).bind fun bt284 => ((tilefarmgen_Tape_Sized.f k s0_0 bt284.2 (wrap64 (1 + bt282.1)) (wrap64 (1 + bt284.1))).bind fun bt286 => (some (bt286.1, bt286.2.1, bt286.2.2.1, bt286.2.2.2.1, bt286.2.2.2.2))))) = some (r1, r2, r3, r4, r5) := h; clear h; replace H := Option.bind_eq_some_iff.mp H; obtain ⟨⟨t282, t283⟩, A20, H⟩ := H; replace H : ((tilefarmgen_Tape_Next.f s0_0 t283 5).bind fun bt284 => ((tilefarmgen_Tape_Sized.f k s0_0 bt284.2 (wrap64 (1 + t282)) (wrap64 (1 + bt284.1))).bind fun bt286 => (some (bt286.1, bt286.2.1, bt286.2.2.1, bt286.2.2.2.1, bt286.2.2.2.2)))) = some (r1, r2, r3, r4, r5) := H; have A2 := am_ A20; clear A20; replace H := Option.bind_eq_some_iff.mp H; obtain ⟨⟨t284, t285⟩, A30, H⟩ := H; replace H : ((tilefarmgen_Tape_Sized.f k s0_0 t285 (wrap64 (1 + t282)) (wrap64 (1 + t284))).bind fun bt286 => (some (bt286.1, bt286.2.1, bt286.2.2.1, bt286.2.2.2.1, bt286.2.2.2.2))) = some (r1, r2, r3, r4, r5) := H; have A3 := am_ A30; clear A30; replace H := Option.bind_eq_some_iff.mp H; obtain ⟨⟨t286, t287, t288, t289, t292⟩, A40, H⟩ := H; replace H : (some (t286, t287, t288, t289, t292)) = some (r1, r2, r3, r4, r5) := H; have A4 := am_ A40; clear A40; simp only [Option.some.injEq, Prod.mk.injEq] at H; obtain ⟨rfl, rfl, rfl, rfl, rfl⟩ := H
 go_enter Try.func19, Try.ntmps19
 go_wp2_with (first | ((with_reducible refine gate_dst (N := 2) rfl ?_); refine box_event ?hg (N := 2) ?hd (cs := #[.int .i64 0, .int .i64 0, .int .i64 0, .slice none 0 0]) (t := 26) ?hr ?_; (case hd => rfl); (case hg => rfl); (case hr => first | (go_simp; done) | (go_simp; rfl)); intro gb281 hg w5 hbox hb; have n0_ := am_ (IsS54.below q147_ hb); have n1_ := am_ (KeepBut.trans q148_ (KeepBut.of_below hb g none) (.inl rfl)); have n2_ := am_ (below_step q116_ hb); have n3_ := am_ (hbox); have n4_ := am_ ((q87_ : w.heap.size ≤ gb281)); have n5_ := am_ ((Nat.le_trans HW0.out (q87_ : w.heap.size ≤ gb281) : w0.heap.size ≤ gb281)); have n6_ := am_ ((q80_ : g ≠ gb281)); have n7_ := am_ ((q81_ : gb281 ≠ g)); clear HI0 HK HB; have HI0 := n0_; have HK := n1_; have HB := n2_; have BK281 := n3_; have GW281 := n4_; have GE281 := n5_; have NB0_281 := n6_; have NB281_0 := n7_; clear n0_ n1_ n2_ n3_ n4_ n5_ n6_ n7_; clear hb hbox hg) | ((with_reducible refine gate_callee (f := 10) rfl ?_); refine goesL_ (some 5) rfl rfl Try.func10 (by kernel_rfl) rfl #[.pointer (some ⟨g, 0, none⟩), .int .i64 6] rfl q150_ ?_; (with_reducible refine (tilefarmgen_Tape_Next.calls g s0_0 s0_1 6 t282 t283 w0 _ ?side1 ?side2 A2.out).mono ?_); (case side1 => repeat (first | (with_reducible first | exact HI0.out | apply IsS54.alloc | apply IsS54.drewN | apply IsS54.drew | apply IsS54.set_1 | refine IsS54.far ?_ NB0_281.out _) | exact HI0.out)); (case side2 => repeat (first | (with_reducible first | exact HB.out | apply below_alloc | apply pw_below_drewN | apply below_drew1 | refine below_set ?_ (IsS54.ge HI0.out) | refine below_set ?_ GE281.out) | exact HB.out)); rintro e w6 ⟨rfl, hi, hb, hk⟩; refine ⟨_, rfl, ?_⟩; have n0_ := am_ (KeepBut.blk hk (g' := gb281) (o := .cells #[.int .i64 0, .int .i64 0, .int .i64 0, .slice none 0 0] 26 (0, 0)) q180_ NB281_0.out (by simp)); have n1_ := am_ (KeepBut.trans q114_ hk (.inl rfl)); have n2_ := am_ (hb); have n3_ := am_ (hi); clear BK281 HK HB HI0; have BK281 := n0_; have HK := n1_; have HB := n2_; have HI0 := n3_; clear n0_ n1_ n2_ n3_; (try clear hb); (try clear hb2); (try clear hk); (try clear hi)) | ((with_reducible refine gate_callee (f := 10) rfl ?_); refine goesL_ (some 8) rfl rfl Try.func10 (by kernel_rfl) rfl #[.pointer (some ⟨g, 0, none⟩), .int .i64 5] rfl q150_ ?_; (with_reducible refine (tilefarmgen_Tape_Next.calls g s0_0 t283 5 t284 t285 w0 _ ?side1 ?side2 A3.out).mono ?_); (case side1 => repeat (first | (with_reducible first | exact HI0.out | apply IsS54.alloc | apply IsS54.drewN | apply IsS54.drew | apply IsS54.set_1 | refine IsS54.far ?_ NB0_281.out _) | exact HI0.out)); (case side2 => repeat (first | (with_reducible first | exact HB.out | apply below_alloc | apply pw_below_drewN | apply below_drew1 | refine below_set ?_ (IsS54.ge HI0.out) | refine below_set ?_ GE281.out) | exact HB.out)); rintro e w7 ⟨rfl, hi, hb, hk⟩; refine ⟨_, rfl, ?_⟩; have n0_ := am_ (KeepBut.blk hk (g' := gb281) (o := .cells #[.int .i64 0, .int .i64 0, .int .i64 0, .slice none 0 0] 26 (0, 0)) q180_ NB281_0.out (by simp)); have n1_ := am_ (KeepBut.trans q114_ hk (.inl rfl)); have n2_ := am_ (hb); have n3_ := am_ (hi); clear BK281 HK HB HI0; have BK281 := n0_; have HK := n1_; have HB := n2_; have HI0 := n3_; clear n0_ n1_ n2_ n3_; (try clear hb); (try clear hb2); (try clear hk); (try clear hi)) | ((with_reducible refine gate_callee (f := 9) rfl ?_); refine goesL_ (some 10) rfl rfl Try.func9 (by kernel_rfl) rfl #[.pointer (some ⟨g, 0, none⟩), .int .i64 (wrap64 (1 + t282)), .int .i64 (wrap64 (1 + t284))] rfl q150_ ?_; (with_reducible refine (tilefarmgen_Tape_Sized.calls k g s0_0 t285 (wrap64 (1 + t282)) (wrap64 (1 + t284)) t286 t287 t288 t289 t292 w0 _ ?side1 ?side2 A4.out).mono ?_); (case side1 => repeat (first | (with_reducible first | exact HI0.out | apply IsS54.alloc | apply IsS54.drewN | apply IsS54.drew | apply IsS54.set_1 | refine IsS54.far ?_ NB0_281.out _) | exact HI0.out)); (case side2 => repeat (first | (with_reducible first | exact HB.out | apply below_alloc | apply pw_below_drewN | apply below_drew1 | refine below_set ?_ (IsS54.ge HI0.out) | refine below_set ?_ GE281.out) | exact HB.out)); rintro e w8 ⟨v290, rfl, ho0, hi, hb, hk⟩; refine ⟨_, rfl, ?_⟩; have n0_ := am_ (KeepBut.blk hk (g' := gb281) (o := .cells #[.int .i64 0, .int .i64 0, .int .i64 0, .slice none 0 0] 26 (0, 0)) q180_ NB281_0.out (by simp)); have n1_ := am_ (Kd.R_lower ho0 (keep_size (w := w) (g := g) (row := none) q114_)); have n2_ := am_ (KeepBut.trans q114_ hk (.inl rfl)); have n3_ := am_ (hb); have n4_ := am_ (hi); clear BK281 HK HB HI0; have BK281 := n0_; have HO291 := n1_; have HK := n2_; have HB := n3_; have HI0 := n4_; clear n0_ n1_ n2_ n3_ n4_; (try clear hb); (try clear hb2); (try clear hk); (try clear hi); (try clear ho0); have hnb9 := NB281_0.out; have hnc9 := NB0_281.out; have hcz10_0 := bc0_ BK281.out; have hcz10_1 := bc1_ BK281.out; have hcz10_2 := bc2_ BK281.out; have hcz10_3 := bc3_ BK281.out; have hfz10_0 := blk_frozen BK281.out 0; have hfz10_1 := blk_frozen BK281.out 1; have hfz10_2 := blk_frozen BK281.out 2; have hfz10_3 := blk_frozen BK281.out 3; obtain ⟨Ao11, co11, eo11⟩ := Kd.R_slice HO291.out; subst eo11))
 refine bodyPost_ret (results_cell_row rfl _ _ gb281 26 #[.int .i64 t286, .int .i64 t287, .int .i64 t288, .slice Ao11 t289.length co11] (0, 0) _ rfl (by (with_reducible repeat (first | refine blk_drewN ?_ _ | refine blk_drew ?_ | refine blk_alloc ?_ _)); refine blk_put (cs := #[.int .i64 t286, .int .i64 t287, .int .i64 t288, .slice none 0 0]) ?_ 3 _ rfl; (with_reducible repeat (first | refine blk_drewN ?_ _ | refine blk_drew ?_ | refine blk_alloc ?_ _)); refine blk_put (cs := #[.int .i64 t286, .int .i64 t287, .int .i64 0, .slice none 0 0]) ?_ 2 _ rfl; (with_reducible repeat (first | refine blk_drewN ?_ _ | refine blk_drew ?_ | refine blk_alloc ?_ _)); refine blk_put (cs := #[.int .i64 t286, .int .i64 0, .int .i64 0, .slice none 0 0]) ?_ 1 _ rfl; (with_reducible repeat (first | refine blk_drewN ?_ _ | refine blk_drew ?_ | refine blk_alloc ?_ _)); refine blk_put (cs := #[.int .i64 0, .int .i64 0, .int .i64 0, .slice none 0 0]) ?_ 0 _ rfl; (with_reducible repeat (first | refine blk_drewN ?_ _ | refine blk_drew ?_ | refine blk_alloc ?_ _)); exact BK281.out) Try.underlying26 rfl (by kernel_rfl)) rfl ?_; exact ⟨_, q224_, by (with_reducible repeat (first | apply Kd.R_alloc | apply Kd.R_drewN | apply Kd.R_drew)); exact Kd.R_mono (Kd.R_far (p := ⟨gb281, 3, none⟩) (Kd.R_far (p := ⟨gb281, 2, none⟩) (Kd.R_far (p := ⟨gb281, 1, none⟩) (Kd.R_far (p := ⟨gb281, 0, none⟩) (Kd.R_types HO291.out BK281.out (by decide)) (fun _ hk => hk.2) (.int .i64 t286)) (fun _ hk => hk.2) (.int .i64 t287)) (fun _ hk => hk.2) (.int .i64 t288)) (fun _ hk => hk.2) (.slice Ao11 t289.length co11)) (fun _ hk => trivial), by repeat (first | (with_reducible first | exact HI0.out | apply IsS54.alloc | apply IsS54.drewN | apply IsS54.drew | apply IsS54.set_1 | refine IsS54.far ?_ NB0_281.out _) | exact HI0.out), by repeat (first | (with_reducible first | exact HB.out | apply below_alloc | apply pw_below_drewN | apply below_drew1 | refine below_set ?_ (IsS54.ge HI0.out) | refine below_set ?_ GE281.out) | exact HB.out), q114_⟩


def tilefarmref4_Same.l0 : Nat → List Int → List Int → Int → Option (Bool)
 | 0, _, _, _ => none
 | k + 1, x0, x1, x5 => if x5 < (x0.length : Int) then (if 0 ≤ x5 then (if x5 < (x1.length : Int) then (if (rd x0 x5) = (rd x1 x5) then (tilefarmref4_Same.l0 k x0 x1 (wrap64 (x5 + 1))) else (some false)) else (none)) else (none)) else (some true)
def tilefarmref4_Same.f (k : Nat) (l0 : List Int) (l1 : List Int) : Option (Bool) := if (l0.length : Int) = (l1.length : Int) then (tilefarmref4_Same.l0 k l0 l1 0) else (some false)
theorem tilefarmref4_Same.mono_l : ∀ k, (∀ y0 y1 y2, LeO (tilefarmref4_Same.l0 k y0 y1 y2) (tilefarmref4_Same.l0 (k + 1) y0 y1 y2))
 | 0 => fun _ _ _ r h => by simp [tilefarmref4_Same.l0] at h
 | k + 1 => by
  have ih0 := tilefarmref4_Same.mono_l k
  ·intro y0 y1 y2
   unfold tilefarmref4_Same.l0
   repeat' first
   | (with_reducible exact ih0 _ _ _)
   | (with_reducible exact LeO.refl _)
   | (with_reducible exact LeO.none _)
   | (with_reducible refine LeO.ite ?_ ?_)
   | (with_reducible refine LeO.bind ?_ (fun _ => ?_))
   | exact ih0 _ _ _
   | exact LeO.none _
   | refine LeO.ite ?_ ?_
   | refine LeO.bind ?_ (fun _ => ?_)
theorem tilefarmref4_Same.mono : ∀ a0 a1 k, LeO (tilefarmref4_Same.f k a0 a1) (tilefarmref4_Same.f (k + 1) a0 a1) := by
 intro a0 a1 k; have ih0 := tilefarmref4_Same.mono_l k; unfold tilefarmref4_Same.f
 repeat' first
   | (with_reducible exact ih0 _ _ _)
   | (with_reducible exact LeO.refl _)
   | (with_reducible exact LeO.none _)
   | (with_reducible refine LeO.ite ?_ ?_)
   | (with_reducible refine LeO.bind ?_ (fun _ => ?_))
   | exact ih0 _ _ _
   | exact LeO.none _
   | refine LeO.ite ?_ ?_
   | refine LeO.bind ?_ (fun _ => ?_)
set_option maxHeartbeats 8000000 in
set_option maxRecDepth 100000 in
theorem tilefarmref4_Same.calls (k : Nat) (A0 : Option Addr) (c0 : Nat) (l0 : List Int) (A1 : Option Addr) (c1 : Nat) (l1 : List Int) (r : Bool) (w : World) (hr0 : Kd.C (Kd.int .i64) w A0 l0.length l0) (hc0 : l0.length ≤ c0) (hr1 : Kd.C (Kd.int .i64) w A1 l1.length l1) (hc1 : l1.length ≤ c1) (h : tilefarmref4_Same.f k l0 l1 = some r) :
  Calls Try.prog 42 #[.slice A0 l0.length c0, .slice A1 l1.length c1] w fun e w' => e = .returned (.bool r) ∧ Drawn0 w w' := by
 have HR0 := am_ hr0; have HC0 := am_ hc0; clear hr0 hc0; have HR1 := am_ hr1; have HC1 := am_ hc1; clear hr1 hc1; have H : (if (l0.length : Int) = (l1.length : Int) then (tilefarmref4_Same.l0 k l0 l1 0) else (some false)) = some r := h; clear h
 by_cases c3 : (l0.length : Int) = (l1.length : Int)
 ·rw [if_pos c3] at H
  have c3b0 : ((l0.length : Int) == (l1.length : Int)) = true := beq_iff_eq.mpr c3; have c3b1 : ((l0.length : Int) != (l1.length : Int)) = false := bne_eq_false_iff_eq.mpr c3; have c3b2 : (l0.length == l1.length) = true := by first | simpa using c3 | (simp at c3 ⊢; omega)
  clear c3; have H' := am_ H; clear H
  go_enter Try.func42, Try.ntmps42
  go_wp2
  repeat (go_quiet (fail); try go_wp2)
  go_loopg [5] k (fun kq v5 w' => ∃ (x5_1 : Int), v5 = .int .i64 x5_1 ∧ Aside0 (tilefarmref4_Same.l0 kq l0 l1 x5_1 = some r) ∧ Aside0 (kq ≤ k) ∧ Drawn0 w w')
  case atStart => exact ⟨(0), q227_, H', ⟨Nat.le_refl _⟩, q225_⟩
  case round =>
   clear H'; (try clear c1); (try clear p2); (try clear c3); (try clear c3b0); (try clear c3b1); (try clear c3b2); obtain ⟨x5_1, rfl, HA, HK1, ⟨m1, rfl⟩⟩ := hrel; cases gk with
   | zero => exact absurd HA.out (by simp [tilefarmref4_Same.l0])
   | succ k1 =>
    have H := HA.out; clear HA; simp only [tilefarmref4_Same.l0] at H
    by_cases c4 : x5_1 < (l0.length : Int)
    ·rw [if_pos c4] at H
     have c4b0 : decide (x5_1 < (l0.length : Int)) = true := decide_eq_true c4; clear c4
     by_cases c5 : 0 ≤ x5_1
     ·rw [if_pos c5] at H
      have c5b0 : decide (0 ≤ x5_1) = true := decide_eq_true c5; clear c5
      by_cases c6 : x5_1 < (l1.length : Int)
      ·rw [if_pos c6] at H
       have c6b0 : decide (x5_1 < (l1.length : Int)) = true := decide_eq_true c6; clear c6
       by_cases c7 : (rd l0 x5_1) = (rd l1 x5_1)
       ·rw [if_pos c7] at H
        have c7b0 : ((rd l0 x5_1) == (rd l1 x5_1)) = true := beq_iff_eq.mpr c7; have c7b1 : ((rd l0 x5_1) != (rd l1 x5_1)) = false := bne_eq_false_iff_eq.mpr c7; clear c7; have H' := am_ H; clear H; have p293 : 0 ≤ (x5_1 : Int) := of_decide_eq_true q226_; have q293 : x5_1 < (l0.length : Int) := of_decide_eq_true q226_; obtain ⟨ad293, e293, hx293_0⟩ := Kd.at_int HR0.out x5_1 p293 q293; cases e293; replace p293 := eq_true p293; replace q293 := eq_true q293; have p294 : 0 ≤ (x5_1 : Int) := of_decide_eq_true q226_; have q294 : x5_1 < (l1.length : Int) := of_decide_eq_true q226_; obtain ⟨ad294, e294, hx294_0⟩ := Kd.at_int HR1.out x5_1 p294 q294; cases e294; replace p294 := eq_true p294; replace q294 := eq_true q294
        go_wp2
        repeat (go_quiet (fail); try go_wp2)
        go_roundg k1
        case measure => have := HK1.out; omega
        case rel => exact ⟨(wrap64 (x5_1 + 1)), q227_, H', ⟨by have := HK1.out; omega⟩, q225_⟩
       ·rw [if_neg c7] at H
        have c7b0 : ((rd l0 x5_1) == (rd l1 x5_1)) = false := beq_eq_false_iff_ne.mpr c7; have c7b1 : ((rd l0 x5_1) != (rd l1 x5_1)) = true := bne_iff_ne.mpr c7; obtain rfl := Option.some.inj H; have p293 : 0 ≤ (x5_1 : Int) := of_decide_eq_true q226_; have q293 : x5_1 < (l0.length : Int) := of_decide_eq_true q226_; obtain ⟨ad293, e293, hx293_0⟩ := Kd.at_int HR0.out x5_1 p293 q293; cases e293; replace p293 := eq_true p293; replace q293 := eq_true q293; have p294 : 0 ≤ (x5_1 : Int) := of_decide_eq_true q226_; have q294 : x5_1 < (l1.length : Int) := of_decide_eq_true q226_; obtain ⟨ad294, e294, hx294_0⟩ := Kd.at_int HR1.out x5_1 p294 q294; cases e294; replace p294 := eq_true p294; replace q294 := eq_true q294
        go_wp2
        repeat (go_quiet (fail); try go_wp2)
        go_ret
        exact ⟨q227_, q225_⟩
      ·rw [if_neg c6] at H
       exact absurd H (by simp)
     ·rw [if_neg c5] at H
      exact absurd H (by simp)
    ·rw [if_neg c4] at H
     have c4b0 : decide (x5_1 < (l0.length : Int)) = false := decide_eq_false c4; clear c4; obtain rfl := Option.some.inj H
     go_wp2
     repeat (go_quiet (fail); try go_wp2)
     go_ret
     exact ⟨q227_, q225_⟩
 ·rw [if_neg c3] at H
  have c3b0 : ((l0.length : Int) == (l1.length : Int)) = false := beq_eq_false_iff_ne.mpr c3; have c3b1 : ((l0.length : Int) != (l1.length : Int)) = true := bne_iff_ne.mpr c3; have c3b2 : (l0.length == l1.length) = false := by first | simpa using c3 | (simp at c3 ⊢; omega)
  obtain rfl := Option.some.inj H
  go_enter Try.func42, Try.ntmps42
  go_wp2
  repeat (go_quiet (fail); try go_wp2)
  go_ret
  exact ⟨q227_, q225_⟩


def tilefarmref4_Equal.f (k : Nat) (a0_0 : Int) (a0_1 : Int) (a0_2 : Int) (l0_3 : List Int) (a1_0 : Int) (a1_1 : Int) (a1_2 : Int) (l1_3 : List Int) : Option (Bool) := if a0_0 = a1_0 then (if a0_1 = a1_1 then (if a0_2 = a1_2 then ((tilefarmref4_Same.f k l0_3 l1_3).bind fun t297 => (some t297)) else (some false)) else (some false)) else (some false)
theorem tilefarmref4_Equal.mono : ∀ a0 a1 a2 a3 a4 a5 a6 a7 k, LeO (tilefarmref4_Equal.f k a0 a1 a2 a3 a4 a5 a6 a7) (tilefarmref4_Equal.f (k + 1) a0 a1 a2 a3 a4 a5 a6 a7) := by
 intro a0 a1 a2 a3 a4 a5 a6 a7 k; unfold tilefarmref4_Equal.f
 repeat' first
   | (with_reducible exact tilefarmref4_Same.mono _ _ _)
   | (with_reducible exact LeO.refl _)
   | (with_reducible exact LeO.none _)
   | (with_reducible refine LeO.ite ?_ ?_)
   | (with_reducible refine LeO.bind ?_ (fun _ => ?_))
   | exact tilefarmref4_Same.mono _ _ _
   | exact LeO.none _
   | refine LeO.ite ?_ ?_
   | refine LeO.bind ?_ (fun _ => ?_)
set_option maxHeartbeats 8000000 in
set_option maxRecDepth 100000 in
theorem tilefarmref4_Equal.calls (k : Nat) (a0_0 : Int) (a0_1 : Int) (a0_2 : Int) (A0_3 : Option Addr) (c0_3 : Nat) (l0_3 : List Int) (a1_0 : Int) (a1_1 : Int) (a1_2 : Int) (A1_3 : Option Addr) (c1_3 : Nat) (l1_3 : List Int) (r : Bool) (w : World) (hr0_3 : Kd.C (Kd.int .i64) w A0_3 l0_3.length l0_3) (hc0_3 : l0_3.length ≤ c0_3) (hr1_3 : Kd.C (Kd.int .i64) w A1_3 l1_3.length l1_3) (hc1_3 : l1_3.length ≤ c1_3) (h : tilefarmref4_Equal.f k a0_0 a0_1 a0_2 l0_3 a1_0 a1_1 a1_2 l1_3 = some r) :
  Calls Try.prog 21 #[.agg #[.int .i64 a0_0, .int .i64 a0_1, .int .i64 a0_2, .slice A0_3 l0_3.length c0_3], .agg #[.int .i64 a1_0, .int .i64 a1_1, .int .i64 a1_2, .slice A1_3 l1_3.length c1_3]] w fun e w' => e = .returned (.bool r) ∧ Below w.heap.size w w' := by
 have hu26 := Try.underlying26; have HR0_3 := am_ hr0_3; have HC0_3 := am_ hc0_3; clear hr0_3 hc0_3; have HR1_3 := am_ hr1_3; have HC1_3 := am_ hc1_3; clear hr1_3 hc1_3; have HB := am_ (Below.refl w.heap.size w); have H : (if a0_0 = a1_0 then (if a0_1 = a1_1 then (if a0_2 = a1_2 then ((tilefarmref4_Same.f k l0_3 l1_3).bind fun t297 => (some t297)) else (some false)) else (some false)) else (some false)) = some r := h; clear h
 by_cases c3 : a0_0 = a1_0
 ·rw [if_pos c3] at H
  have c3b0 : (a0_0 == a1_0) = true := beq_iff_eq.mpr c3; have c3b1 : (a0_0 != a1_0) = false := bne_eq_false_iff_eq.mpr c3; clear c3
  by_cases c4 : a0_1 = a1_1
  ·rw [if_pos c4] at H
   have c4b0 : (a0_1 == a1_1) = true := beq_iff_eq.mpr c4; have c4b1 : (a0_1 != a1_1) = false := bne_eq_false_iff_eq.mpr c4; clear c4
   by_cases c5 : a0_2 = a1_2
   ·rw [if_pos c5] at H
    have c5b0 : (a0_2 == a1_2) = true := beq_iff_eq.mpr c5; have c5b1 : (a0_2 != a1_2) = false := bne_eq_false_iff_eq.mpr c5; clear c5; replace H := Option.bind_eq_some_iff.mp H; obtain ⟨t297, A60, H⟩ := H; replace H : (some t297) = some r := H; have A6 := am_ A60; clear A60; obtain rfl := Option.some.inj H
    go_enter Try.func21, Try.ntmps21
    go_wp2_with (first | ((with_reducible refine gate_dst (N := 2) rfl ?_); refine box_event ?hg (N := 2) ?hd (cs := #[.int .i64 a0_0, .int .i64 a0_1, .int .i64 a0_2, .slice A0_3 l0_3.length c0_3]) (t := 26) ?hr ?_; (case hd => rfl); (case hg => rfl); (case hr => first | (go_simp; done) | (go_simp; rfl)); intro gb295 hg w7 hbox hb; have n0_ := am_ (below_step q153_ hb); have n1_ := am_ (hbox); have n2_ := am_ ((q123_ : w.heap.size ≤ gb295)); have n3_ := am_ ((q123_ : w.heap.size ≤ gb295)); clear HB; have HB := n0_; have BK295 := n1_; have GW295 := n2_; have GE295 := n3_; clear n0_ n1_ n2_ n3_; clear hb hbox hg) | ((with_reducible refine gate_dst (N := 3) rfl ?_); refine box_event ?hg (N := 3) ?hd (cs := #[.int .i64 a1_0, .int .i64 a1_1, .int .i64 a1_2, .slice A1_3 l1_3.length c1_3]) (t := 26) ?hr ?_; (case hd => rfl); (case hg => rfl); (case hr => first | (go_simp; done) | (go_simp; rfl)); intro gb296 hg w8 hbox hb; have n0_ := am_ (blk_below (g := gb295) (o := .cells #[.int .i64 a0_0, .int .i64 a0_1, .int .i64 a0_2, .slice A0_3 l0_3.length c0_3] 26 (0, 0)) q181_ hb); have n1_ := am_ (below_step q138_ hb); have n2_ := am_ (hbox); have n3_ := am_ ((q96_ : w.heap.size ≤ gb296)); have n4_ := am_ ((q96_ : w.heap.size ≤ gb296)); have n5_ := am_ ((q29_ : gb295 ≠ gb296)); have n6_ := am_ ((q30_ : gb296 ≠ gb295)); clear BK295 HB; have BK295 := n0_; have HB := n1_; have BK296 := n2_; have GW296 := n3_; have GE296 := n4_; have NB295_296 := n5_; have NB296_295 := n6_; clear n0_ n1_ n2_ n3_ n4_ n5_ n6_; clear hb hbox hg; have hnb9 := NB295_296.out; have hnc9 := NB296_295.out; have hcz10_0 := bc0_ BK295.out; have hcz10_1 := bc1_ BK295.out; have hcz10_2 := bc2_ BK295.out; have hcz10_3 := bc3_ BK295.out; have hfz10_0 := blk_frozen BK295.out 0; have hfz10_1 := blk_frozen BK295.out 1; have hfz10_2 := blk_frozen BK295.out 2; have hfz10_3 := blk_frozen BK295.out 3; have hcz11_0 := bc0_ BK296.out; have hcz11_1 := bc1_ BK296.out; have hcz11_2 := bc2_ BK296.out; have hcz11_3 := bc3_ BK296.out; have hfz11_0 := blk_frozen BK296.out 0; have hfz11_1 := blk_frozen BK296.out 1; have hfz11_2 := blk_frozen BK296.out 2; have hfz11_3 := blk_frozen BK296.out 3) | (go_at_call 42; (with_reducible refine (tilefarmref4_Same.calls k _ _ l0_3 _ _ l1_3 t297 _ ?side1 ?side2 ?side3 ?side4 A6.out).mono ?_); (case side1 => repeat (first | exact (Kd.C_below HR0_3.out HB.out) | (with_reducible refine Kd.C_alloc ?_ _) | (with_reducible refine Kd.C_drewN ?_ _) | (with_reducible refine Kd.C_drew ?_))); (case side2 => exact HC0_3.out); (case side3 => repeat (first | exact (Kd.C_below HR1_3.out HB.out) | (with_reducible refine Kd.C_alloc ?_ _) | (with_reducible refine Kd.C_drewN ?_ _) | (with_reducible refine Kd.C_drew ?_))); (case side4 => exact HC1_3.out); rintro e w' ⟨rfl, ⟨nd, rfl⟩⟩))
    go_ret
    exact ⟨q224_, q106_⟩
   ·rw [if_neg c5] at H
    have c5b0 : (a0_2 == a1_2) = false := beq_eq_false_iff_ne.mpr c5; have c5b1 : (a0_2 != a1_2) = true := bne_iff_ne.mpr c5; obtain rfl := Option.some.inj H
    go_enter Try.func21, Try.ntmps21
    go_wp2_with (first | ((with_reducible refine gate_dst (N := 2) rfl ?_); refine box_event ?hg (N := 2) ?hd (cs := #[.int .i64 a0_0, .int .i64 a0_1, .int .i64 a0_2, .slice A0_3 l0_3.length c0_3]) (t := 26) ?hr ?_; (case hd => rfl); (case hg => rfl); (case hr => first | (go_simp; done) | (go_simp; rfl)); intro gb295 hg w12 hbox hb; have n0_ := am_ (below_step q153_ hb); have n1_ := am_ (hbox); have n2_ := am_ ((q123_ : w.heap.size ≤ gb295)); have n3_ := am_ ((q123_ : w.heap.size ≤ gb295)); clear HB; have HB := n0_; have BK295 := n1_; have GW295 := n2_; have GE295 := n3_; clear n0_ n1_ n2_ n3_; clear hb hbox hg) | ((with_reducible refine gate_dst (N := 3) rfl ?_); refine box_event ?hg (N := 3) ?hd (cs := #[.int .i64 a1_0, .int .i64 a1_1, .int .i64 a1_2, .slice A1_3 l1_3.length c1_3]) (t := 26) ?hr ?_; (case hd => rfl); (case hg => rfl); (case hr => first | (go_simp; done) | (go_simp; rfl)); intro gb296 hg w13 hbox hb; have n0_ := am_ (blk_below (g := gb295) (o := .cells #[.int .i64 a0_0, .int .i64 a0_1, .int .i64 a0_2, .slice A0_3 l0_3.length c0_3] 26 (0, 0)) q181_ hb); have n1_ := am_ (below_step q138_ hb); have n2_ := am_ (hbox); have n3_ := am_ ((q96_ : w.heap.size ≤ gb296)); have n4_ := am_ ((q96_ : w.heap.size ≤ gb296)); have n5_ := am_ ((q29_ : gb295 ≠ gb296)); have n6_ := am_ ((q30_ : gb296 ≠ gb295)); clear BK295 HB; have BK295 := n0_; have HB := n1_; have BK296 := n2_; have GW296 := n3_; have GE296 := n4_; have NB295_296 := n5_; have NB296_295 := n6_; clear n0_ n1_ n2_ n3_ n4_ n5_ n6_; clear hb hbox hg; have hnb14 := NB295_296.out; have hnc14 := NB296_295.out; have hcz15_0 := bc0_ BK295.out; have hcz15_1 := bc1_ BK295.out; have hcz15_2 := bc2_ BK295.out; have hcz15_3 := bc3_ BK295.out; have hfz15_0 := blk_frozen BK295.out 0; have hfz15_1 := blk_frozen BK295.out 1; have hfz15_2 := blk_frozen BK295.out 2; have hfz15_3 := blk_frozen BK295.out 3; have hcz16_0 := bc0_ BK296.out; have hcz16_1 := bc1_ BK296.out; have hcz16_2 := bc2_ BK296.out; have hcz16_3 := bc3_ BK296.out; have hfz16_0 := blk_frozen BK296.out 0; have hfz16_1 := blk_frozen BK296.out 1; have hfz16_2 := blk_frozen BK296.out 2; have hfz16_3 := blk_frozen BK296.out 3))
    go_ret
    exact ⟨q224_, q106_⟩
  ·rw [if_neg c4] at H
   have c4b0 : (a0_1 == a1_1) = false := beq_eq_false_iff_ne.mpr c4; have c4b1 : (a0_1 != a1_1) = true := bne_iff_ne.mpr c4; obtain rfl := Option.some.inj H
   go_enter Try.func21, Try.ntmps21
   go_wp2_with (first | ((with_reducible refine gate_dst (N := 2) rfl ?_); refine box_event ?hg (N := 2) ?hd (cs := #[.int .i64 a0_0, .int .i64 a0_1, .int .i64 a0_2, .slice A0_3 l0_3.length c0_3]) (t := 26) ?hr ?_; (case hd => rfl); (case hg => rfl); (case hr => first | (go_simp; done) | (go_simp; rfl)); intro gb295 hg w17 hbox hb; have n0_ := am_ (below_step q153_ hb); have n1_ := am_ (hbox); have n2_ := am_ ((q123_ : w.heap.size ≤ gb295)); have n3_ := am_ ((q123_ : w.heap.size ≤ gb295)); clear HB; have HB := n0_; have BK295 := n1_; have GW295 := n2_; have GE295 := n3_; clear n0_ n1_ n2_ n3_; clear hb hbox hg) | ((with_reducible refine gate_dst (N := 3) rfl ?_); refine box_event ?hg (N := 3) ?hd (cs := #[.int .i64 a1_0, .int .i64 a1_1, .int .i64 a1_2, .slice A1_3 l1_3.length c1_3]) (t := 26) ?hr ?_; (case hd => rfl); (case hg => rfl); (case hr => first | (go_simp; done) | (go_simp; rfl)); intro gb296 hg w18 hbox hb; have n0_ := am_ (blk_below (g := gb295) (o := .cells #[.int .i64 a0_0, .int .i64 a0_1, .int .i64 a0_2, .slice A0_3 l0_3.length c0_3] 26 (0, 0)) q181_ hb); have n1_ := am_ (below_step q138_ hb); have n2_ := am_ (hbox); have n3_ := am_ ((q96_ : w.heap.size ≤ gb296)); have n4_ := am_ ((q96_ : w.heap.size ≤ gb296)); have n5_ := am_ ((q29_ : gb295 ≠ gb296)); have n6_ := am_ ((q30_ : gb296 ≠ gb295)); clear BK295 HB; have BK295 := n0_; have HB := n1_; have BK296 := n2_; have GW296 := n3_; have GE296 := n4_; have NB295_296 := n5_; have NB296_295 := n6_; clear n0_ n1_ n2_ n3_ n4_ n5_ n6_; clear hb hbox hg; have hnb19 := NB295_296.out; have hnc19 := NB296_295.out; have hcz20_0 := bc0_ BK295.out; have hcz20_1 := bc1_ BK295.out; have hcz20_2 := bc2_ BK295.out; have hcz20_3 := bc3_ BK295.out; have hfz20_0 := blk_frozen BK295.out 0; have hfz20_1 := blk_frozen BK295.out 1; have hfz20_2 := blk_frozen BK295.out 2; have hfz20_3 := blk_frozen BK295.out 3; have hcz21_0 := bc0_ BK296.out; have hcz21_1 := bc1_ BK296.out; have hcz21_2 := bc2_ BK296.out; have hcz21_3 := bc3_ BK296.out; have hfz21_0 := blk_frozen BK296.out 0; have hfz21_1 := blk_frozen BK296.out 1; have hfz21_2 := blk_frozen BK296.out 2; have hfz21_3 := blk_frozen BK296.out 3))
   go_ret
   exact ⟨q224_, q106_⟩
 ·rw [if_neg c3] at H
  have c3b0 : (a0_0 == a1_0) = false := beq_eq_false_iff_ne.mpr c3; have c3b1 : (a0_0 != a1_0) = true := bne_iff_ne.mpr c3; obtain rfl := Option.some.inj H
  go_enter Try.func21, Try.ntmps21
  go_wp2_with (first | ((with_reducible refine gate_dst (N := 2) rfl ?_); refine box_event ?hg (N := 2) ?hd (cs := #[.int .i64 a0_0, .int .i64 a0_1, .int .i64 a0_2, .slice A0_3 l0_3.length c0_3]) (t := 26) ?hr ?_; (case hd => rfl); (case hg => rfl); (case hr => first | (go_simp; done) | (go_simp; rfl)); intro gb295 hg w22 hbox hb; have n0_ := am_ (below_step q153_ hb); have n1_ := am_ (hbox); have n2_ := am_ ((q123_ : w.heap.size ≤ gb295)); have n3_ := am_ ((q123_ : w.heap.size ≤ gb295)); clear HB; have HB := n0_; have BK295 := n1_; have GW295 := n2_; have GE295 := n3_; clear n0_ n1_ n2_ n3_; clear hb hbox hg) | ((with_reducible refine gate_dst (N := 3) rfl ?_); refine box_event ?hg (N := 3) ?hd (cs := #[.int .i64 a1_0, .int .i64 a1_1, .int .i64 a1_2, .slice A1_3 l1_3.length c1_3]) (t := 26) ?hr ?_; (case hd => rfl); (case hg => rfl); (case hr => first | (go_simp; done) | (go_simp; rfl)); intro gb296 hg w23 hbox hb; have n0_ := am_ (blk_below (g := gb295) (o := .cells #[.int .i64 a0_0, .int .i64 a0_1, .int .i64 a0_2, .slice A0_3 l0_3.length c0_3] 26 (0, 0)) q181_ hb); have n1_ := am_ (below_step q138_ hb); have n2_ := am_ (hbox); have n3_ := am_ ((q96_ : w.heap.size ≤ gb296)); have n4_ := am_ ((q96_ : w.heap.size ≤ gb296)); have n5_ := am_ ((q29_ : gb295 ≠ gb296)); have n6_ := am_ ((q30_ : gb296 ≠ gb295)); clear BK295 HB; have BK295 := n0_; have HB := n1_; have BK296 := n2_; have GW296 := n3_; have GE296 := n4_; have NB295_296 := n5_; have NB296_295 := n6_; clear n0_ n1_ n2_ n3_ n4_ n5_ n6_; clear hb hbox hg; have hnb24 := NB295_296.out; have hnc24 := NB296_295.out; have hcz25_0 := bc0_ BK295.out; have hcz25_1 := bc1_ BK295.out; have hcz25_2 := bc2_ BK295.out; have hcz25_3 := bc3_ BK295.out; have hfz25_0 := blk_frozen BK295.out 0; have hfz25_1 := blk_frozen BK295.out 1; have hfz25_2 := blk_frozen BK295.out 2; have hfz25_3 := blk_frozen BK295.out 3; have hcz26_0 := bc0_ BK296.out; have hcz26_1 := bc1_ BK296.out; have hcz26_2 := bc2_ BK296.out; have hcz26_3 := bc3_ BK296.out; have hfz26_0 := blk_frozen BK296.out 0; have hfz26_1 := blk_frozen BK296.out 1; have hfz26_2 := blk_frozen BK296.out 2; have hfz26_3 := blk_frozen BK296.out 3))
  go_ret
  exact ⟨q224_, q106_⟩

end Go.Proofs.Ytgkccacenlcebaa.PPlaneCrops
