-- Written by a program of the session (wip/tools/myprint.py) over the kit's printer; checked by Lean.
import Derived.Test.YtepbjipmfchpnaaPFixedWithinx0
import Derived.Test.YtepbjipmfchpnaaPFixedWithinx1
import Derived.Test.YtepbjipmfchpnaaPFixedWithinx2
namespace Go.Proofs.Ytepbjipmfchpnaa.PFixedWithin
open Go.RowKit Go.Proofs.YtepbjipmfchpnaaW.PrintWords Go.Proofs.YtepbjipmfchpnaaW.PrintLast Go.Proofs.YtepbjipmfchpnaaW.PrintMore
attribute [local go_sem] max2_int min2_int max_two min_two max_three min_three max_four min_four   -- for this text's walks alone
set_option linter.unusedVariables false
set_option linter.unusedSimpArgs false

/-! ### tilefarmlaw7_FixedWithin: function 4 -/
def tilefarmlaw7_FixedWithin.l0 : Nat → List Int → Int → Int → Int → Int → Int → Int → Int → Int → List Int → Int → Option (Bool)
  | 0, _, _, _, _, _, _, _, _, _, _, _ => none
  | k + 1, x4, x5, x6, x7, x8, x10, x11, x12, x13, x133000, x133001 => if x13 < (x4.length : Int) then (if 0 ≤ x13 then ((tilefarmgen_Tape_Next.f x133000 x133001 (wrap64 ((wrap64 (x6 - x5)) + 1))).bind fun bt147 => (tilefarmlaw7_FixedWithin.l0 k x4 x5 x6 x7 x8 (wrap64 (x10 + (wrap64 ((rd x4 x13) * (wrap64 (x5 + bt147.1)))))) (wrap64 (x11 + (mn (wrap64 ((rd x4 x13) * x5)) (wrap64 ((rd x4 x13) * x6))))) (wrap64 (x12 + (mx (wrap64 ((rd x4 x13) * x5)) (wrap64 ((rd x4 x13) * x6))))) (wrap64 (x13 + 1)) x133000 bt147.2)) else (none)) else (if x7 ≤ x10 then (if x10 ≤ x8 then (if x11 = x7 then (if x12 = x8 then ((tilefarmlaw7_sane.f k).bind fun t153 => (some t153)) else (some false)) else (some false)) else (some false)) else (some false))
def tilefarmlaw7_FixedWithin.f (k : Nat) (l0 : List Int) : Option (Bool) := (tilefarmgen_New.f l0).bind fun bt130 => ((tilefarmgen_Tape_Next.f bt130.1 bt130.2 9).bind fun bt133 => ((tilefarmgen_Tape_Weights.f k bt130.1 bt133.2 (wrap64 (1 + bt133.1))).bind fun bt135 => ((tilefarmgen_Tape_Next.f bt130.1 bt135.2 300).bind fun bt139 => ((tilefarmgen_Tape_Next.f bt130.1 bt139.2 300).bind fun bt141 => ((fixed_Bounds.f k bt135.1 (wrap64 (bt139.1 - 150)) (wrap64 ((wrap64 (bt139.1 - 150)) + bt141.1))).bind fun bt143 => (if bt143.2.2 = true then (tilefarmlaw7_FixedWithin.l0 k bt135.1 (wrap64 (bt139.1 - 150)) (wrap64 ((wrap64 (bt139.1 - 150)) + bt141.1)) bt143.1 bt143.2.1 0 0 0 0 bt130.1 bt141.2) else (some false)))))))
theorem tilefarmlaw7_FixedWithin.mono_l : ∀ k, (∀ y0 y1 y2 y3 y4 y5 y6 y7 y8 y9 y10, LeO (tilefarmlaw7_FixedWithin.l0 k y0 y1 y2 y3 y4 y5 y6 y7 y8 y9 y10) (tilefarmlaw7_FixedWithin.l0 (k + 1) y0 y1 y2 y3 y4 y5 y6 y7 y8 y9 y10))
  | 0 => fun _ _ _ _ _ _ _ _ _ _ _ r h => by simp [tilefarmlaw7_FixedWithin.l0] at h
  | k + 1 => by
    have ih0 := tilefarmlaw7_FixedWithin.mono_l k
    · intro y0 y1 y2 y3 y4 y5 y6 y7 y8 y9 y10
      unfold tilefarmlaw7_FixedWithin.l0
      repeat' first
      | (with_reducible exact ih0 _ _ _ _ _ _ _ _ _ _ _)
      | (with_reducible exact fixed_Bounds.mono _ _ _ _)
      | (with_reducible exact tilefarmgen_Tape_Weights.mono _ _ _ _)
      | (with_reducible exact tilefarmlaw7_sane.mono _)
      | (with_reducible exact LeO.refl _)
      | (with_reducible exact LeO.none _)
      | (with_reducible refine LeO.ite ?_ ?_)
      | (with_reducible refine LeO.bind ?_ (fun _ => ?_))
      | exact ih0 _ _ _ _ _ _ _ _ _ _ _
      | exact fixed_Bounds.mono _ _ _ _
      | exact tilefarmgen_Tape_Weights.mono _ _ _ _
      | exact tilefarmlaw7_sane.mono _
      | exact LeO.none _
      | refine LeO.ite ?_ ?_
      | refine LeO.bind ?_ (fun _ => ?_)
theorem tilefarmlaw7_FixedWithin.mono : ∀ a0 k, LeO (tilefarmlaw7_FixedWithin.f k a0) (tilefarmlaw7_FixedWithin.f (k + 1) a0) := by
  intro a0 k
  have ih0 := tilefarmlaw7_FixedWithin.mono_l k
  unfold tilefarmlaw7_FixedWithin.f
  repeat' first
      | (with_reducible exact ih0 _ _ _ _ _ _ _ _ _ _ _)
      | (with_reducible exact fixed_Bounds.mono _ _ _ _)
      | (with_reducible exact tilefarmgen_Tape_Weights.mono _ _ _ _)
      | (with_reducible exact tilefarmlaw7_sane.mono _)
      | (with_reducible exact LeO.refl _)
      | (with_reducible exact LeO.none _)
      | (with_reducible refine LeO.ite ?_ ?_)
      | (with_reducible refine LeO.bind ?_ (fun _ => ?_))
      | exact ih0 _ _ _ _ _ _ _ _ _ _ _
      | exact fixed_Bounds.mono _ _ _ _
      | exact tilefarmgen_Tape_Weights.mono _ _ _ _
      | exact tilefarmlaw7_sane.mono _
      | exact LeO.none _
      | refine LeO.ite ?_ ?_
      | refine LeO.bind ?_ (fun _ => ?_)
def tilefarmlaw7_FixedWithin.T11 : Bool × List (List Nat × List Nat) := (true, [([], []), ([], []), ([], []), ([1, 2], [1, 2]), ([3], [3]), ([], []), ([], []), ([], []), ([], []), ([7, 8], [7, 8]), ([9], [9]), ([6, 10], [6, 10]), ([5, 11], [5, 11]), ([4, 12], [4, 12]), ([0, 13], [0, 13]), ([14, 11, 0, 1, 2, 3, 4, 5, 6, 7, 8, 9, 10, 11, 12, 13, 14], [0, 14])])
def tilefarmlaw7_FixedWithin.B11 : List Nat := [0, 0, 0, 6, 14, 0, 0, 0, 0, 384, 896, 1984, 4064, 8190, 16383, 32767]
theorem tilefarmlaw7_FixedWithin.tab11 : rtab .any (opsOf Try.f4 11) = tilefarmlaw7_FixedWithin.T11 := by kernel_rfl
theorem tilefarmlaw7_FixedWithin.bits11 : waitsOk tilefarmlaw7_FixedWithin.T11.2 tilefarmlaw7_FixedWithin.B11 = true := by kernel_rfl
def tilefarmlaw7_FixedWithin.T12 : Bool × List (List Nat × List Nat) := (true, [([], []), ([], []), ([], []), ([1, 2], [1, 2]), ([3], [3]), ([], []), ([4, 5], [4, 5]), ([], []), ([], []), ([7, 8], [7, 8]), ([9], [9]), ([], []), ([10, 11], [10, 11]), ([6, 12], [6, 12]), ([0, 13], [0, 13]), ([14, 0, 1, 2, 3, 4, 5, 6, 7, 8, 9, 10, 11, 12, 13, 14], [0, 14])])
def tilefarmlaw7_FixedWithin.B12 : List Nat := [0, 0, 0, 6, 14, 0, 62, 0, 0, 384, 896, 0, 3968, 8190, 16383, 32767]
theorem tilefarmlaw7_FixedWithin.tab12 : rtab .any (opsOf Try.f4 12) = tilefarmlaw7_FixedWithin.T12 := by kernel_rfl
theorem tilefarmlaw7_FixedWithin.bits12 : waitsOk tilefarmlaw7_FixedWithin.T12.2 tilefarmlaw7_FixedWithin.B12 = true := by kernel_rfl
def tilefarmlaw7_FixedWithin.T13 : Bool × List (List Nat × List Nat) := (true, [([], []), ([], []), ([], []), ([1, 2], [1, 2]), ([3], [3]), ([], []), ([4, 5], [4, 5]), ([], []), ([], []), ([7, 8], [7, 8]), ([9], [9]), ([], []), ([10, 11], [10, 11]), ([6, 12], [6, 12]), ([0, 13], [0, 13]), ([14, 0, 1, 2, 3, 4, 5, 6, 7, 8, 9, 10, 11, 12, 13, 14], [0, 14])])
def tilefarmlaw7_FixedWithin.B13 : List Nat := [0, 0, 0, 6, 14, 0, 62, 0, 0, 384, 896, 0, 3968, 8190, 16383, 32767]
theorem tilefarmlaw7_FixedWithin.tab13 : rtab .any (opsOf Try.f4 13) = tilefarmlaw7_FixedWithin.T13 := by kernel_rfl
theorem tilefarmlaw7_FixedWithin.bits13 : waitsOk tilefarmlaw7_FixedWithin.T13.2 tilefarmlaw7_FixedWithin.B13 = true := by kernel_rfl
set_option maxHeartbeats 8000000 in
set_option maxRecDepth 100000 in
theorem tilefarmlaw7_FixedWithin.calls (k : Nat) (A0 : Option Addr) (c0 : Nat) (l0 : List Int) (r : Bool) (w : World) (hr0 : Kd.C (Kd.int .i64) w A0 l0.length l0) (hc0 : l0.length ≤ c0) (h : tilefarmlaw7_FixedWithin.f k l0 = some r) (hT : r = true := by first | rfl | assumption) :
    Calls Try.prog 4 #[.slice A0 l0.length c0] w fun e w' => e = .returned (.bool r) ∧ Below w.heap.size w w' := by
  have HT := Aside0.mk hT
  clear hT
  have HR0 := Aside0.mk hr0
  have HC0 := Aside0.mk hc0
  clear hr0 hc0
  have HB := Aside0.mk (Below.refl w.heap.size w)
  have H : ((tilefarmgen_New.f l0).bind fun bt130 => ((tilefarmgen_Tape_Next.f bt130.1 bt130.2 9).bind fun bt133 => ((tilefarmgen_Tape_Weights.f k bt130.1 bt133.2 (wrap64 (1 + bt133.1))).bind fun bt135 => ((tilefarmgen_Tape_Next.f bt130.1 bt135.2 300).bind fun bt139 => ((tilefarmgen_Tape_Next.f bt130.1 bt139.2 300).bind fun bt141 => ((fixed_Bounds.f k bt135.1 (wrap64 (bt139.1 - 150)) (wrap64 ((wrap64 (bt139.1 - 150)) + bt141.1))).bind fun bt143 => (if bt143.2.2 = true then (tilefarmlaw7_FixedWithin.l0 k bt135.1 (wrap64 (bt139.1 - 150)) (wrap64 ((wrap64 (bt139.1 - 150)) + bt141.1)) bt143.1 bt143.2.1 0 0 0 0 bt130.1 bt141.2) else (some false)))))))) = some r := h
  clear h
  replace H := Option.bind_eq_some_iff.mp H
  obtain ⟨⟨t130, t131⟩, A20, H⟩ := H
  replace H : ((tilefarmgen_Tape_Next.f t130 t131 9).bind fun bt133 => ((tilefarmgen_Tape_Weights.f k t130 bt133.2 (wrap64 (1 + bt133.1))).bind fun bt135 => ((tilefarmgen_Tape_Next.f t130 bt135.2 300).bind fun bt139 => ((tilefarmgen_Tape_Next.f t130 bt139.2 300).bind fun bt141 => ((fixed_Bounds.f k bt135.1 (wrap64 (bt139.1 - 150)) (wrap64 ((wrap64 (bt139.1 - 150)) + bt141.1))).bind fun bt143 => (if bt143.2.2 = true then (tilefarmlaw7_FixedWithin.l0 k bt135.1 (wrap64 (bt139.1 - 150)) (wrap64 ((wrap64 (bt139.1 - 150)) + bt141.1)) bt143.1 bt143.2.1 0 0 0 0 t130 bt141.2) else (some false))))))) = some r := H
  have A2 := Aside0.mk A20
  clear A20
  replace H := Option.bind_eq_some_iff.mp H
  obtain ⟨⟨t133, t134⟩, A30, H⟩ := H
  replace H : ((tilefarmgen_Tape_Weights.f k t130 t134 (wrap64 (1 + t133))).bind fun bt135 => ((tilefarmgen_Tape_Next.f t130 bt135.2 300).bind fun bt139 => ((tilefarmgen_Tape_Next.f t130 bt139.2 300).bind fun bt141 => ((fixed_Bounds.f k bt135.1 (wrap64 (bt139.1 - 150)) (wrap64 ((wrap64 (bt139.1 - 150)) + bt141.1))).bind fun bt143 => (if bt143.2.2 = true then (tilefarmlaw7_FixedWithin.l0 k bt135.1 (wrap64 (bt139.1 - 150)) (wrap64 ((wrap64 (bt139.1 - 150)) + bt141.1)) bt143.1 bt143.2.1 0 0 0 0 t130 bt141.2) else (some false)))))) = some r := H
  have A3 := Aside0.mk A30
  clear A30
  replace H := Option.bind_eq_some_iff.mp H
  obtain ⟨⟨t135, t138⟩, A40, H⟩ := H
  replace H : ((tilefarmgen_Tape_Next.f t130 t138 300).bind fun bt139 => ((tilefarmgen_Tape_Next.f t130 bt139.2 300).bind fun bt141 => ((fixed_Bounds.f k t135 (wrap64 (bt139.1 - 150)) (wrap64 ((wrap64 (bt139.1 - 150)) + bt141.1))).bind fun bt143 => (if bt143.2.2 = true then (tilefarmlaw7_FixedWithin.l0 k t135 (wrap64 (bt139.1 - 150)) (wrap64 ((wrap64 (bt139.1 - 150)) + bt141.1)) bt143.1 bt143.2.1 0 0 0 0 t130 bt141.2) else (some false))))) = some r := H
  have A4 := Aside0.mk A40
  clear A40
  replace H := Option.bind_eq_some_iff.mp H
  obtain ⟨⟨t139, t140⟩, A50, H⟩ := H
  replace H : ((tilefarmgen_Tape_Next.f t130 t140 300).bind fun bt141 => ((fixed_Bounds.f k t135 (wrap64 (t139 - 150)) (wrap64 ((wrap64 (t139 - 150)) + bt141.1))).bind fun bt143 => (if bt143.2.2 = true then (tilefarmlaw7_FixedWithin.l0 k t135 (wrap64 (t139 - 150)) (wrap64 ((wrap64 (t139 - 150)) + bt141.1)) bt143.1 bt143.2.1 0 0 0 0 t130 bt141.2) else (some false)))) = some r := H
  have A5 := Aside0.mk A50
  clear A50
  replace H := Option.bind_eq_some_iff.mp H
  obtain ⟨⟨t141, t142⟩, A60, H⟩ := H
  replace H : ((fixed_Bounds.f k t135 (wrap64 (t139 - 150)) (wrap64 ((wrap64 (t139 - 150)) + t141))).bind fun bt143 => (if bt143.2.2 = true then (tilefarmlaw7_FixedWithin.l0 k t135 (wrap64 (t139 - 150)) (wrap64 ((wrap64 (t139 - 150)) + t141)) bt143.1 bt143.2.1 0 0 0 0 t130 t142) else (some false))) = some r := H
  have A6 := Aside0.mk A60
  clear A60
  replace H := Option.bind_eq_some_iff.mp H
  obtain ⟨⟨t143, t144, t145⟩, A70, H⟩ := H
  replace H : (if t145 = true then (tilefarmlaw7_FixedWithin.l0 k t135 (wrap64 (t139 - 150)) (wrap64 ((wrap64 (t139 - 150)) + t141)) t143 t144 0 0 0 0 t130 t142) else (some false)) = some r := H
  have A7 := Aside0.mk A70
  clear A70
  by_cases c8 : t145 = true
  · subst c8
    have H1 : (tilefarmlaw7_FixedWithin.l0 k t135 (wrap64 (t139 - 150)) (wrap64 ((wrap64 (t139 - 150)) + t141)) t143 t144 0 0 0 0 t130 t142) = some r := by rw [if_pos rfl] at H; exact H
    clear H
    have H := H1
    clear H1
    have H' := Aside0.mk H
    clear H
    go_enter Try.func4, Try.ntmps4
    go_wp2_with (first | ((with_reducible refine gate_callee (f := 7) rfl ?_); refine goesL_ (some 15) rfl rfl Try.func7 (by kernel_rfl) rfl #[.slice A0 l0.length c0] rfl (by (try simp only [List.map_toArray, List.map_cons, List.map_nil]); first | done | rfl | (simp only [List.length_drop, List.length_take]; rfl)) ?_; (with_reducible refine (tilefarmgen_New.calls _ _ l0 t130 t131 w _ ?side1 ?side2 ?side3 A2.out).mono ?_); (case side1 => repeat (first | (with_reducible first | exact HB.out | apply below_alloc | apply pw_below_drewN | apply below_drew1) | exact HB.out)); (case side2 => exact HR0.out); (case side3 => exact HC0.out); rintro e w9 ⟨g132, rfl, hi, hb, hb2⟩; refine ⟨_, rfl, ?_⟩; have n0_ := Aside0.mk (hb); have n1_ := Aside0.mk (hi); clear HB; have HB := n0_; have HI132 := n1_; clear n0_ n1_; (try clear hb); (try clear hb2); (try clear hk); (try clear hi)) | ((with_reducible refine gate_callee (f := 10) rfl ?_); refine goesL_ (some 18) rfl rfl Try.func10 (by kernel_rfl) rfl #[.pointer (some ⟨g132, 0, none⟩), .int .i64 9] rfl (by (try simp only [List.map_toArray, List.map_cons, List.map_nil]); first | done | rfl | (simp only [List.length_drop, List.length_take]; rfl)) ?_; (with_reducible refine (tilefarmgen_Tape_Next.calls g132 t130 t131 9 t133 t134 w _ ?side1 ?side2 A3.out).mono ?_); (case side1 => repeat (first | (with_reducible first | exact HI132.out | apply IsS41.alloc | apply IsS41.drewN | apply IsS41.drew | apply IsS41.set_1) | exact HI132.out)); (case side2 => repeat (first | (with_reducible first | exact HB.out | apply below_alloc | apply pw_below_drewN | apply below_drew1 | refine below_set ?_ (IsS41.ge HI132.out)) | exact HB.out)); rintro e w10 ⟨rfl, hi, hb, hk⟩; refine ⟨_, rfl, ?_⟩; have n0_ := Aside0.mk (hb); have n1_ := Aside0.mk (hi); clear HB; clear HI132; have HB := n0_; have HI132 := n1_; clear n0_ n1_; (try clear hb); (try clear hb2); (try clear hk); (try clear hi)) | ((with_reducible refine gate_callee (f := 8) rfl ?_); refine goesL_ (some 20) rfl rfl Try.func8 (by kernel_rfl) rfl #[.pointer (some ⟨g132, 0, none⟩), .int .i64 (wrap64 (1 + t133))] rfl (by (try simp only [List.map_toArray, List.map_cons, List.map_nil]); first | done | rfl | (simp only [List.length_drop, List.length_take]; rfl)) ?_; (with_reducible refine (tilefarmgen_Tape_Weights.calls k g132 t130 t134 (wrap64 (1 + t133)) t135 t138 w _ ?side1 ?side2 A4.out).mono ?_); (case side1 => repeat (first | (with_reducible first | exact HI132.out | apply IsS41.alloc | apply IsS41.drewN | apply IsS41.drew | apply IsS41.set_1) | exact HI132.out)); (case side2 => repeat (first | (with_reducible first | exact HB.out | apply below_alloc | apply pw_below_drewN | apply below_drew1 | refine below_set ?_ (IsS41.ge HI132.out)) | exact HB.out)); rintro e w11 ⟨v136, rfl, ho0, hi, hb, hk⟩; refine ⟨_, rfl, ?_⟩; have n0_ := Aside0.mk (Kd.R_lower ho0 (below_size (by repeat (first | (with_reducible first | exact HB.out | apply below_alloc | apply pw_below_drewN | apply below_drew1 | refine below_set ?_ (IsS41.ge HI132.out)) | exact HB.out)))); have n1_ := Aside0.mk (hb); have n2_ := Aside0.mk (hi); clear HB; clear HI132; have HO137 := n0_; have HB := n1_; have HI132 := n2_; clear n0_ n1_ n2_; (try clear hb); (try clear hb2); (try clear hk); (try clear hi); (try clear ho0)) | ((with_reducible refine gate_callee (f := 10) rfl ?_); refine goesL_ (some 22) rfl rfl Try.func10 (by kernel_rfl) rfl #[.pointer (some ⟨g132, 0, none⟩), .int .i64 300] rfl (by (try simp only [List.map_toArray, List.map_cons, List.map_nil]); first | done | rfl | (simp only [List.length_drop, List.length_take]; rfl)) ?_; (with_reducible refine (tilefarmgen_Tape_Next.calls g132 t130 t138 300 t139 t140 w _ ?side1 ?side2 A5.out).mono ?_); (case side1 => repeat (first | (with_reducible first | exact HI132.out | apply IsS41.alloc | apply IsS41.drewN | apply IsS41.drew | apply IsS41.set_1) | exact HI132.out)); (case side2 => repeat (first | (with_reducible first | exact HB.out | apply below_alloc | apply pw_below_drewN | apply below_drew1 | refine below_set ?_ (IsS41.ge HI132.out)) | exact HB.out)); rintro e w12 ⟨rfl, hi, hb, hk⟩; refine ⟨_, rfl, ?_⟩; have n0_ := Aside0.mk (Kd.R_mono (Kd.R_keep (IsS41.apart (show IsS41 w _ g132 t130 t138 from by repeat (first | (with_reducible first | exact HI132.out | apply IsS41.alloc | apply IsS41.drewN | apply IsS41.drew | apply IsS41.set_1) | exact HI132.out)) (by (with_reducible repeat (first | apply Kd.R_alloc | apply Kd.R_drewN | apply Kd.R_drew)); exact HO137.out) (by decide)) hk (fun _ h => h.2)) (fun _ h => h.1)); have n1_ := Aside0.mk (hb); have n2_ := Aside0.mk (hi); clear HO137; clear HB; clear HI132; have HO137 := n0_; have HB := n1_; have HI132 := n2_; clear n0_ n1_ n2_; (try clear hb); (try clear hb2); (try clear hk); (try clear hi)) | ((with_reducible refine gate_callee (f := 10) rfl ?_); refine goesL_ (some 26) rfl rfl Try.func10 (by kernel_rfl) rfl #[.pointer (some ⟨g132, 0, none⟩), .int .i64 300] rfl (by (try simp only [List.map_toArray, List.map_cons, List.map_nil]); first | done | rfl | (simp only [List.length_drop, List.length_take]; rfl)) ?_; (with_reducible refine (tilefarmgen_Tape_Next.calls g132 t130 t140 300 t141 t142 w _ ?side1 ?side2 A6.out).mono ?_); (case side1 => repeat (first | (with_reducible first | exact HI132.out | apply IsS41.alloc | apply IsS41.drewN | apply IsS41.drew | apply IsS41.set_1) | exact HI132.out)); (case side2 => repeat (first | (with_reducible first | exact HB.out | apply below_alloc | apply pw_below_drewN | apply below_drew1 | refine below_set ?_ (IsS41.ge HI132.out)) | exact HB.out)); rintro e w13 ⟨rfl, hi, hb, hk⟩; refine ⟨_, rfl, ?_⟩; have n0_ := Aside0.mk (Kd.R_mono (Kd.R_keep (IsS41.apart (show IsS41 w _ g132 t130 t140 from by repeat (first | (with_reducible first | exact HI132.out | apply IsS41.alloc | apply IsS41.drewN | apply IsS41.drew | apply IsS41.set_1) | exact HI132.out)) (by (with_reducible repeat (first | apply Kd.R_alloc | apply Kd.R_drewN | apply Kd.R_drew)); exact HO137.out) (by decide)) hk (fun _ h => h.2)) (fun _ h => h.1)); have n1_ := Aside0.mk (hb); have n2_ := Aside0.mk (hi); clear HO137; clear HB; clear HI132; have HO137 := n0_; have HB := n1_; have HI132 := n2_; clear n0_ n1_ n2_; (try clear hb); (try clear hb2); (try clear hk); (try clear hi); obtain ⟨Ao14, co14, eo14⟩ := Kd.R_slice HO137.out; subst eo14) | ((with_reducible refine gate_callee (f := 11) rfl ?_); refine goesL_ (some 32) rfl rfl Try.func11 (by kernel_rfl) rfl #[.slice Ao14 t135.length co14, .int .i64 (wrap64 (t139 - 150)), .int .i64 (wrap64 ((wrap64 (t139 - 150)) + t141))] rfl (by (try simp only [List.map_toArray, List.map_cons, List.map_nil]); first | done | rfl | (simp only [List.length_drop, List.length_take]; rfl)) ?_; (with_reducible refine (fixed_Bounds.calls k _ _ t135 (wrap64 (t139 - 150)) (wrap64 ((wrap64 (t139 - 150)) + t141)) t143 t144 true _ ?side1 ?side2 A7.out).mono ?_); (case side1 => repeat (first | exact (Kd.R_reads' HO137.out).2.2 | (with_reducible refine Kd.C_alloc ?_ _) | (with_reducible refine Kd.C_drewN ?_ _) | (with_reducible refine Kd.C_drew ?_))); (case side2 => exact (Kd.R_reads' HO137.out).2.1); rintro e w15 ⟨rfl, hb⟩; refine ⟨_, rfl, ?_⟩; have n0_ := Aside0.mk (Kd.R_below (by (with_reducible repeat (first | apply Kd.R_alloc | apply Kd.R_drewN | apply Kd.R_drew)); exact HO137.out) hb); have n1_ := Aside0.mk (IsS41.below (by repeat (first | (with_reducible first | exact HI132.out | apply IsS41.alloc | apply IsS41.drewN | apply IsS41.drew | apply IsS41.set_1) | exact HI132.out)) hb); have n2_ := Aside0.mk (below_step (by repeat (first | (with_reducible first | exact HB.out | apply below_alloc | apply pw_below_drewN | apply below_drew1 | refine below_set ?_ (IsS41.ge HI132.out)) | exact HB.out)) hb); clear HO137; clear HI132; clear HB; have HO137 := n0_; have HI132 := n1_; have HB := n2_; clear n0_ n1_ n2_; (try clear hb); (try clear hb2); (try clear hk); (try clear hi)))
    go_loopg [10, 11, 12, 13] k (fun kq v10 v11 v12 v13 w' => ∃ (x10_1 : Int) (x11_1 : Int) (x12_1 : Int) (x13_1 : Int) (x133001_1 : Int), v10 = .int .i64 x10_1 ∧ v11 = .int .i64 x11_1 ∧ v12 = .int .i64 x12_1 ∧ v13 = .int .i64 x13_1 ∧ Aside0 (tilefarmlaw7_FixedWithin.l0 kq t135 (wrap64 (t139 - 150)) (wrap64 ((wrap64 (t139 - 150)) + t141)) t143 t144 x10_1 x11_1 x12_1 x13_1 t130 x133001_1 = some r) ∧ Aside0 (kq ≤ k) ∧ Aside0 (Kd.R (Kd.int .i64) 3 w' w.heap.size (fun _ => True) (.slice Ao14 t135.length co14) t135) ∧ Aside0 (IsS41 w w' g132 t130 x133001_1) ∧ Aside0 (Below w.heap.size w w'))
    case atStart => exact ⟨(0), (0), (0), (0), (t142), (by first | rfl | (simp; done) | (simp [*]; done)), (by first | rfl | (simp; done) | (simp [*]; done)), (by first | rfl | (simp; done) | (simp [*]; done)), (by first | rfl | (simp; done) | (simp [*]; done)), H', ⟨Nat.le_refl _⟩, ⟨by (with_reducible repeat (first | apply Kd.R_alloc | apply Kd.R_drewN | apply Kd.R_drew)); exact HO137.out⟩, ⟨by repeat (first | (with_reducible first | exact HI132.out | apply IsS41.alloc | apply IsS41.drewN | apply IsS41.drew | apply IsS41.set_1) | exact HI132.out)⟩, ⟨by repeat (first | (with_reducible first | exact HB.out | apply below_alloc | apply pw_below_drewN | apply below_drew1 | refine below_set ?_ (IsS41.ge HI132.out)) | exact HB.out)⟩⟩
    case round =>
      clear H'
      try clear c1
      try clear p2
      try clear c4
      try clear p6
      try clear c7
      try clear c8
      try clear c10
      try clear c11
      obtain ⟨x10_1, x11_1, x12_1, x13_1, x133001_1, rfl, rfl, rfl, rfl, HA, HK1, HO_4, HI132, HB⟩ := hrel
      cases gk with
      | zero => exact absurd HA.out (by simp [tilefarmlaw7_FixedWithin.l0])
      | succ k1 =>
        have H := HA.out
        clear HA
        simp only [tilefarmlaw7_FixedWithin.l0] at H
        by_cases c16 : x13_1 < (t135.length : Int)
        · rw [if_pos c16] at H
          have c16b0 : decide (x13_1 < (t135.length : Int)) = true := decide_eq_true c16
          clear c16
          by_cases c17 : 0 ≤ x13_1
          · rw [if_pos c17] at H
            have c17b0 : decide (0 ≤ x13_1) = true := decide_eq_true c17
            clear c17
            replace H := Option.bind_eq_some_iff.mp H
            obtain ⟨⟨t147, t148⟩, A180, H⟩ := H
            replace H : (tilefarmlaw7_FixedWithin.l0 k1 t135 (wrap64 (t139 - 150)) (wrap64 ((wrap64 (t139 - 150)) + t141)) t143 t144 (wrap64 (x10_1 + (wrap64 ((rd t135 x13_1) * (wrap64 ((wrap64 (t139 - 150)) + t147)))))) (wrap64 (x11_1 + (mn (wrap64 ((rd t135 x13_1) * (wrap64 (t139 - 150)))) (wrap64 ((rd t135 x13_1) * (wrap64 ((wrap64 (t139 - 150)) + t141))))))) (wrap64 (x12_1 + (mx (wrap64 ((rd t135 x13_1) * (wrap64 (t139 - 150)))) (wrap64 ((rd t135 x13_1) * (wrap64 ((wrap64 (t139 - 150)) + t141))))))) (wrap64 (x13_1 + 1)) t130 t148) = some r := H
            have A18 := Aside0.mk A180
            clear A180
            obtain ⟨ji19, hji19⟩ : ∃ j_ : Int, (mn (wrap64 ((rd t135 x13_1) * (wrap64 (t139 - 150)))) (wrap64 ((rd t135 x13_1) * (wrap64 ((wrap64 (t139 - 150)) + t141))))) = j_ := ⟨_, rfl⟩
            replace H : (tilefarmlaw7_FixedWithin.l0 k1 t135 (wrap64 (t139 - 150)) (wrap64 ((wrap64 (t139 - 150)) + t141)) t143 t144 (wrap64 (x10_1 + (wrap64 ((rd t135 x13_1) * (wrap64 ((wrap64 (t139 - 150)) + t147)))))) (wrap64 (x11_1 + (ji19))) (wrap64 (x12_1 + (mx (wrap64 ((rd t135 x13_1) * (wrap64 (t139 - 150)))) (wrap64 ((rd t135 x13_1) * (wrap64 ((wrap64 (t139 - 150)) + t141))))))) (wrap64 (x13_1 + 1)) t130 t148) = some r := by first | (rw [hji19] at H; exact H) | (simp only [hji19] at H ⊢; exact H)
            (try rw [hji19] at A18)
            have hji19_ : (if (wrap64 ((rd t135 x13_1) * (wrap64 ((wrap64 (t139 - 150)) + t141)))) < (wrap64 ((rd t135 x13_1) * (wrap64 (t139 - 150)))) then (wrap64 ((rd t135 x13_1) * (wrap64 ((wrap64 (t139 - 150)) + t141)))) else (wrap64 ((rd t135 x13_1) * (wrap64 (t139 - 150))))) = ji19 := hji19
            obtain ⟨ji20, hji20⟩ : ∃ j_ : Int, (mx (wrap64 ((rd t135 x13_1) * (wrap64 (t139 - 150)))) (wrap64 ((rd t135 x13_1) * (wrap64 ((wrap64 (t139 - 150)) + t141))))) = j_ := ⟨_, rfl⟩
            replace H : (tilefarmlaw7_FixedWithin.l0 k1 t135 (wrap64 (t139 - 150)) (wrap64 ((wrap64 (t139 - 150)) + t141)) t143 t144 (wrap64 (x10_1 + (wrap64 ((rd t135 x13_1) * (wrap64 ((wrap64 (t139 - 150)) + t147)))))) (wrap64 (x11_1 + (ji19))) (wrap64 (x12_1 + (ji20))) (wrap64 (x13_1 + 1)) t130 t148) = some r := by first | (rw [hji20] at H; exact H) | (simp only [hji20] at H ⊢; exact H)
            (try rw [hji20] at A18)
            have hji20_ : (if (wrap64 ((rd t135 x13_1) * (wrap64 (t139 - 150)))) < (wrap64 ((rd t135 x13_1) * (wrap64 ((wrap64 (t139 - 150)) + t141)))) then (wrap64 ((rd t135 x13_1) * (wrap64 ((wrap64 (t139 - 150)) + t141)))) else (wrap64 ((rd t135 x13_1) * (wrap64 (t139 - 150))))) = ji20 := hji20
            have H' := Aside0.mk H
            clear H
            try go_wp2
            have n0_ := Aside0.mk (Kd.R_drew HO_4.out)
            have n1_ := Aside0.mk (IsS41.drew HI132.out)
            have n2_ := Aside0.mk (below_drew1 HB.out)
            clear HO_4
            clear HI132
            clear HB
            have HO_4 := n0_
            have HI132 := n1_
            have HB := n2_
            clear n0_ n1_ n2_
            have p146 : 0 ≤ (x13_1 : Int) := of_decide_eq_true (by first | (with_reducible assumption) | assumption)
            have q146 : x13_1 < (t135.length : Int) := of_decide_eq_true (by first | (with_reducible assumption) | assumption)
            obtain ⟨ad146, e146, hx146_0⟩ := Kd.at_int (Kd.R_reads' HO_4.out).2.2 x13_1 p146 q146
            cases e146
            replace p146 := eq_true p146
            replace q146 := eq_true q146
            refine start_ (n := 16) (S := fun w' => w'.cell? (ad146.add (x13_1).toNat) = some (.int .i64 (rd t135 x13_1))) (ds := []) #[false, false, false, false, false, false, false, false, false, false, false, false, false, false, false, false] (by kernel_rfl) rfl rfl (hx146_0) (fun hHeld => ?_); refine with_tabW tilefarmlaw7_FixedWithin.tab11 tilefarmlaw7_FixedWithin.bits11 (fun HT_ HW_ => ?_)
            generalize wr.drew = w21 at HO_4 HI132 HB hx146_0 hHeld ⊢
            refine pure_ (i := 0) (N := some 44) (v := ?_) (a' := ?_) #[true, false, false, false, false, false, false, false, false, false, false, false, false, false, false, false] rfl rfl (any_of HT_.out (by kernel_rfl)) (fun _ _ _ h => h) (Or.inl ⟨by rfl, ?_⟩) ?_ ?_
            rotate_left
            · intro w'
              go_simp
              with_reducible rfl
            rotate_left
            · simp only [Act.put, List.setIfInBounds_toArray, List.set_cons_zero, List.set_cons_succ, i64_w, i32_w]
              rfl
            refine pure_ (i := 1) (N := some 45) (v := ?_) (a' := ?_) #[true, true, false, false, false, false, false, false, false, false, false, false, false, false, false, false] rfl rfl (any_of HT_.out (by kernel_rfl)) (fun _ _ _ h => h) (Or.inl ⟨by rfl, ?_⟩) ?_ ?_
            rotate_left
            · intro w'
              go_simp
              with_reducible rfl
            rotate_left
            · simp only [Act.put, List.setIfInBounds_toArray, List.set_cons_zero, List.set_cons_succ, i64_w, i32_w]
              rfl
            refine pure_ (i := 2) (N := some 46) (v := ?_) (a' := ?_) #[true, true, true, false, false, false, false, false, false, false, false, false, false, false, false, false] rfl rfl (any_of HT_.out (by kernel_rfl)) (fun _ _ _ h => h) (Or.inl ⟨by rfl, ?_⟩) ?_ ?_
            rotate_left
            · intro w'
              go_simp
              with_reducible rfl
            rotate_left
            · simp only [Act.put, List.setIfInBounds_toArray, List.set_cons_zero, List.set_cons_succ, i64_w, i32_w]
              rfl
            refine pure_ (i := 3) (N := some 47) (v := ?_) (a' := ?_) #[true, true, true, true, false, false, false, false, false, false, false, false, false, false, false, false] rfl rfl (any_of HT_.out (by kernel_rfl)) (fun _ _ _ h => h) (Or.inl ⟨by rfl, ?_⟩) ?_ ?_
            rotate_left
            · intro w'
              go_simp
              with_reducible rfl
            rotate_left
            · simp only [Act.put, List.setIfInBounds_toArray, List.set_cons_zero, List.set_cons_succ, i64_w, i32_w]
              rfl
            refine pure_ (i := 5) (N := some 49) (v := ?_) (a' := ?_) #[true, true, true, true, false, true, false, false, false, false, false, false, false, false, false, false] rfl rfl (any_of HT_.out (by kernel_rfl)) (fun _ _ _ h => h) (Or.inl ⟨by rfl, ?_⟩) ?_ ?_
            rotate_left
            · intro w'
              go_simp
              with_reducible rfl
            rotate_left
            · simp only [Act.put, List.setIfInBounds_toArray, List.set_cons_zero, List.set_cons_succ, i64_w, i32_w]
              rfl
            refine pure_ (i := 6) (N := some 50) (v := ?_) (a' := ?_) #[true, true, true, true, false, true, true, false, false, false, false, false, false, false, false, false] rfl rfl (any_of HT_.out (by kernel_rfl)) (fun _ _ _ h => h) (Or.inl ⟨by rfl, ?_⟩) ?_ ?_
            rotate_left
            · intro w'
              go_simp
              with_reducible rfl
            rotate_left
            · simp only [Act.put, List.setIfInBounds_toArray, List.set_cons_zero, List.set_cons_succ, i64_w, i32_w]
              rfl
            refine pure_ (i := 7) (N := some 51) (v := ?_) (a' := ?_) #[true, true, true, true, false, true, true, true, false, false, false, false, false, false, false, false] rfl rfl (any_of HT_.out (by kernel_rfl)) (fun _ _ _ h => h) (Or.inl ⟨by rfl, ?_⟩) ?_ ?_
            rotate_left
            · intro w'
              go_simp
              with_reducible rfl
            rotate_left
            · simp only [Act.put, List.setIfInBounds_toArray, List.set_cons_zero, List.set_cons_succ, i64_w, i32_w]
              rfl
            refine pure_ (i := 8) (N := some 52) (v := ?_) (a' := ?_) #[true, true, true, true, false, true, true, true, true, false, false, false, false, false, false, false] rfl rfl (any_of HT_.out (by kernel_rfl)) (fun _ _ _ h => h) (Or.inl ⟨by rfl, ?_⟩) ?_ ?_
            rotate_left
            · intro w'
              go_simp
              with_reducible rfl
            rotate_left
            · simp only [Act.put, List.setIfInBounds_toArray, List.set_cons_zero, List.set_cons_succ, i64_w, i32_w]
              rfl
            refine pure_ (i := 9) (N := some 53) (v := ?_) (a' := ?_) #[true, true, true, true, false, true, true, true, true, true, false, false, false, false, false, false] rfl rfl (any_of HT_.out (by kernel_rfl)) (fun _ _ _ h => h) (Or.inl ⟨by rfl, ?_⟩) ?_ ?_
            rotate_left
            · intro w'
              go_simp
              with_reducible rfl
            rotate_left
            · simp only [Act.put, List.setIfInBounds_toArray, List.set_cons_zero, List.set_cons_succ, i64_w, i32_w]
              rfl
            refine pure_ (i := 10) (N := some 54) (v := ?_) (a' := ?_) #[true, true, true, true, false, true, true, true, true, true, true, false, false, false, false, false] rfl rfl (any_of HT_.out (by kernel_rfl)) (fun _ _ _ h => h) (Or.inl ⟨by rfl, ?_⟩) ?_ ?_
            rotate_left
            · intro w'
              go_simp
              with_reducible rfl
            rotate_left
            · simp only [Act.put, List.setIfInBounds_toArray, List.set_cons_zero, List.set_cons_succ, i64_w, i32_w]
              rfl
            refine take_ (i := 4) (N := some 48) (v := ?_) (a' := ?_) #[true, true, true, true, true, true, true, true, true, true, true, false, false, false, false, false] rfl rfl (take_ofW HT_.out HW_.out (by kernel_rfl)) (fun _ _ _ h => h) (Or.inl ⟨by rfl, ?_⟩) hHeld ?_ ?_
            rotate_left
            · intro w' s0
              go_simp
              with_reducible rfl
            rotate_left
            · simp only [Act.put, List.setIfInBounds_toArray, List.set_cons_zero, List.set_cons_succ, i64_w, i32_w]
              rfl
            refine one_ (i := 11) (N := some 55) #[true, true, true, true, true, true, true, true, true, true, true, true, false, false, false, false] rfl rfl (one_of HT_.out (by kernel_rfl)) (by decide) (fun K hK => ?_)
            refine goes_ Try.func10 (by kernel_rfl) rfl #[.pointer (some ⟨g132, 0, none⟩), .int .i64 (wrap64 ((wrap64 ((wrap64 ((wrap64 (t139 - 150)) + t141)) - (wrap64 (t139 - 150)))) + 1))] (by rfl) rfl rfl (by (try simp only [List.map_toArray, List.map_cons, List.map_nil]); first | done | rfl | (simp only [List.length_drop, List.length_take]; rfl)) ?_
            with_reducible refine (tilefarmgen_Tape_Next.calls g132 t130 x133001_1 (wrap64 ((wrap64 ((wrap64 ((wrap64 (t139 - 150)) + t141)) - (wrap64 (t139 - 150)))) + 1)) t147 t148 w _ ?side1 ?side2 A18.out).mono ?_
            (case side1 => repeat (first | (with_reducible first | exact HI132.out | apply IsS41.alloc | apply IsS41.drewN | apply IsS41.drew | apply IsS41.set_1) | exact HI132.out))
            (case side2 => repeat (first | (with_reducible first | exact HB.out | apply below_alloc | apply pw_below_drewN | apply below_drew1 | refine below_set ?_ (IsS41.ge HI132.out)) | exact HB.out))
            rintro e w22 ⟨rfl, hi, hb, hk⟩
            have HS0_ := keep_cell hk (hHeld) (by first | (rw [add_block]; exact Kd.own_blk (IsS41.own_ne HI132.out HO_4.out (by decide))) | (show (Addr.add _ _).block ≠ _; rw [add_block]; exact Kd.own_blk (IsS41.own_ne HI132.out HO_4.out (by decide))) | exact Kd.own_blk (IsS41.own_ne HI132.out HO_4.out (by decide)))
            refine ⟨_, rfl, ?_⟩
            have n0_ := Aside0.mk (Kd.R_mono (Kd.R_keep (IsS41.apart (show IsS41 w _ g132 t130 x133001_1 from by repeat (first | (with_reducible first | exact HI132.out | apply IsS41.alloc | apply IsS41.drewN | apply IsS41.drew | apply IsS41.set_1) | exact HI132.out)) (by (with_reducible repeat (first | apply Kd.R_alloc | apply Kd.R_drewN | apply Kd.R_drew)); exact HO_4.out) (by decide)) hk (fun _ h => h.2)) (fun _ h => h.1))
            have n1_ := Aside0.mk (hb)
            have n2_ := Aside0.mk (hi)
            clear HO_4
            clear HB
            clear HI132
            have HO_4 := n0_
            have HB := n1_
            have HI132 := n2_
            clear n0_ n1_ n2_
            (try clear hb)
            (try clear hb2)
            (try clear hk)
            (try clear hi)
            refine hK.out _ _ (HS0_) (fun hHeld => ?_)
            clear hK K
            refine norm_ (a' := ?_) ?_ ?_
            rotate_left
            · show Act.put _ (some 55) _ = _
              simp only [Act.put, List.setIfInBounds_toArray, List.set_cons_zero, List.set_cons_succ, i64_w, i32_w]
              rfl
            refine pure_ (i := 12) (N := some 56) (v := ?_) (a' := ?_) #[true, true, true, true, true, true, true, true, true, true, true, true, true, false, false, false] rfl rfl (any_of HT_.out (by kernel_rfl)) (fun _ _ _ h => h) (Or.inl ⟨by rfl, ?_⟩) ?_ ?_
            rotate_left
            · intro w'
              go_simp
              with_reducible rfl
            rotate_left
            · simp only [Act.put, List.setIfInBounds_toArray, List.set_cons_zero, List.set_cons_succ, i64_w, i32_w]
              rfl
            refine pure_ (i := 13) (N := some 57) (v := ?_) (a' := ?_) #[true, true, true, true, true, true, true, true, true, true, true, true, true, true, false, false] rfl rfl (any_of HT_.out (by kernel_rfl)) (fun _ _ _ h => h) (Or.inl ⟨by rfl, ?_⟩) ?_ ?_
            rotate_left
            · intro w'
              go_simp
              with_reducible rfl
            rotate_left
            · simp only [Act.put, List.setIfInBounds_toArray, List.set_cons_zero, List.set_cons_succ, i64_w, i32_w]
              rfl
            refine pure_ (i := 14) (N := some 58) (v := ?_) (a' := ?_) #[true, true, true, true, true, true, true, true, true, true, true, true, true, true, true, false] rfl rfl (any_of HT_.out (by kernel_rfl)) (fun _ _ _ h => h) (Or.inl ⟨by rfl, ?_⟩) ?_ ?_
            rotate_left
            · intro w'
              go_simp
              with_reducible rfl
            rotate_left
            · simp only [Act.put, List.setIfInBounds_toArray, List.set_cons_zero, List.set_cons_succ, i64_w, i32_w]
              rfl
            refine pure_ (i := 15) (N := some 10) (v := ?_) (a' := ?_) #[true, true, true, true, true, true, true, true, true, true, true, true, true, true, true, true] rfl rfl (any_of HT_.out (by kernel_rfl)) (fun _ _ _ h => h) (Or.inl ⟨by rfl, ?_⟩) ?_ ?_
            rotate_left
            · intro w'
              go_simp
              with_reducible rfl
            rotate_left
            · simp only [Act.put, List.setIfInBounds_toArray, List.set_cons_zero, List.set_cons_succ, i64_w, i32_w]
              rfl
            refine done_ (done_of HT_.out (by kernel_rfl)) ?_
            try go_wp2
            have n0_ := Aside0.mk (Kd.R_drew HO_4.out)
            have n1_ := Aside0.mk (IsS41.drew HI132.out)
            have n2_ := Aside0.mk (below_drew1 HB.out)
            clear HO_4
            clear HI132
            clear HB
            have HO_4 := n0_
            have HI132 := n1_
            have HB := n2_
            clear n0_ n1_ n2_
            have p149 : 0 ≤ (x13_1 : Int) := of_decide_eq_true (by first | (with_reducible assumption) | assumption)
            have q149 : x13_1 < (t135.length : Int) := of_decide_eq_true (by first | (with_reducible assumption) | assumption)
            obtain ⟨ad149, e149, hx149_0⟩ := Kd.at_int (Kd.R_reads' HO_4.out).2.2 x13_1 p149 q149
            obtain rfl : ad146 = ad149 := (by injection e149)
            replace p149 := eq_true p149
            replace q149 := eq_true q149
            have p150 : 0 ≤ (x13_1 : Int) := of_decide_eq_true (by first | (with_reducible assumption) | assumption)
            have q150 : x13_1 < (t135.length : Int) := of_decide_eq_true (by first | (with_reducible assumption) | assumption)
            obtain ⟨ad150, e150, hx150_0⟩ := Kd.at_int (Kd.R_reads' HO_4.out).2.2 x13_1 p150 q150
            obtain rfl : ad146 = ad150 := (by injection e150)
            replace p150 := eq_true p150
            replace q150 := eq_true q150
            refine start_ (n := 16) (S := fun w' => w'.cell? (ad146.add (x13_1).toNat) = some (.int .i64 (rd t135 x13_1)) ∧ w'.cell? (ad146.add (x13_1).toNat) = some (.int .i64 (rd t135 x13_1))) (ds := []) #[false, false, false, false, false, false, false, false, false, false, false, false, false, false, false, false] (by kernel_rfl) rfl rfl ⟨hx149_0, hx150_0⟩ (fun hHeld => ?_); refine with_tabW tilefarmlaw7_FixedWithin.tab12 tilefarmlaw7_FixedWithin.bits12 (fun HT_ HW_ => ?_)
            generalize w22.drew = w23 at HO_4 HI132 HB hx149_0 hx150_0 hHeld ⊢
            refine pure_ (i := 0) (N := some 59) (v := ?_) (a' := ?_) #[true, false, false, false, false, false, false, false, false, false, false, false, false, false, false, false] rfl rfl (any_of HT_.out (by kernel_rfl)) (fun _ _ _ h => h) (Or.inl ⟨by rfl, ?_⟩) ?_ ?_
            rotate_left
            · intro w'
              go_simp
              with_reducible rfl
            rotate_left
            · simp only [Act.put, List.setIfInBounds_toArray, List.set_cons_zero, List.set_cons_succ, i64_w, i32_w]
              rfl
            refine pure_ (i := 1) (N := some 60) (v := ?_) (a' := ?_) #[true, true, false, false, false, false, false, false, false, false, false, false, false, false, false, false] rfl rfl (any_of HT_.out (by kernel_rfl)) (fun _ _ _ h => h) (Or.inl ⟨by rfl, ?_⟩) ?_ ?_
            rotate_left
            · intro w'
              go_simp
              with_reducible rfl
            rotate_left
            · simp only [Act.put, List.setIfInBounds_toArray, List.set_cons_zero, List.set_cons_succ, i64_w, i32_w]
              rfl
            refine pure_ (i := 2) (N := some 61) (v := ?_) (a' := ?_) #[true, true, true, false, false, false, false, false, false, false, false, false, false, false, false, false] rfl rfl (any_of HT_.out (by kernel_rfl)) (fun _ _ _ h => h) (Or.inl ⟨by rfl, ?_⟩) ?_ ?_
            rotate_left
            · intro w'
              go_simp
              with_reducible rfl
            rotate_left
            · simp only [Act.put, List.setIfInBounds_toArray, List.set_cons_zero, List.set_cons_succ, i64_w, i32_w]
              rfl
            refine pure_ (i := 3) (N := some 62) (v := ?_) (a' := ?_) #[true, true, true, true, false, false, false, false, false, false, false, false, false, false, false, false] rfl rfl (any_of HT_.out (by kernel_rfl)) (fun _ _ _ h => h) (Or.inl ⟨by rfl, ?_⟩) ?_ ?_
            rotate_left
            · intro w'
              go_simp
              with_reducible rfl
            rotate_left
            · simp only [Act.put, List.setIfInBounds_toArray, List.set_cons_zero, List.set_cons_succ, i64_w, i32_w]
              rfl
            refine pure_ (i := 5) (N := some 64) (v := ?_) (a' := ?_) #[true, true, true, true, false, true, false, false, false, false, false, false, false, false, false, false] rfl rfl (any_of HT_.out (by kernel_rfl)) (fun _ _ _ h => h) (Or.inl ⟨by rfl, ?_⟩) ?_ ?_
            rotate_left
            · intro w'
              go_simp
              with_reducible rfl
            rotate_left
            · simp only [Act.put, List.setIfInBounds_toArray, List.set_cons_zero, List.set_cons_succ, i64_w, i32_w]
              rfl
            refine pure_ (i := 7) (N := some 66) (v := ?_) (a' := ?_) #[true, true, true, true, false, true, false, true, false, false, false, false, false, false, false, false] rfl rfl (any_of HT_.out (by kernel_rfl)) (fun _ _ _ h => h) (Or.inl ⟨by rfl, ?_⟩) ?_ ?_
            rotate_left
            · intro w'
              go_simp
              with_reducible rfl
            rotate_left
            · simp only [Act.put, List.setIfInBounds_toArray, List.set_cons_zero, List.set_cons_succ, i64_w, i32_w]
              rfl
            refine pure_ (i := 8) (N := some 67) (v := ?_) (a' := ?_) #[true, true, true, true, false, true, false, true, true, false, false, false, false, false, false, false] rfl rfl (any_of HT_.out (by kernel_rfl)) (fun _ _ _ h => h) (Or.inl ⟨by rfl, ?_⟩) ?_ ?_
            rotate_left
            · intro w'
              go_simp
              with_reducible rfl
            rotate_left
            · simp only [Act.put, List.setIfInBounds_toArray, List.set_cons_zero, List.set_cons_succ, i64_w, i32_w]
              rfl
            refine pure_ (i := 9) (N := some 68) (v := ?_) (a' := ?_) #[true, true, true, true, false, true, false, true, true, true, false, false, false, false, false, false] rfl rfl (any_of HT_.out (by kernel_rfl)) (fun _ _ _ h => h) (Or.inl ⟨by rfl, ?_⟩) ?_ ?_
            rotate_left
            · intro w'
              go_simp
              with_reducible rfl
            rotate_left
            · simp only [Act.put, List.setIfInBounds_toArray, List.set_cons_zero, List.set_cons_succ, i64_w, i32_w]
              rfl
            refine pure_ (i := 11) (N := some 70) (v := ?_) (a' := ?_) #[true, true, true, true, false, true, false, true, true, true, false, true, false, false, false, false] rfl rfl (any_of HT_.out (by kernel_rfl)) (fun _ _ _ h => h) (Or.inl ⟨by rfl, ?_⟩) ?_ ?_
            rotate_left
            · intro w'
              go_simp
              with_reducible rfl
            rotate_left
            · simp only [Act.put, List.setIfInBounds_toArray, List.set_cons_zero, List.set_cons_succ, i64_w, i32_w]
              rfl
            refine take_ (i := 4) (N := some 63) (v := ?_) (a' := ?_) #[true, true, true, true, true, true, false, true, true, true, false, true, false, false, false, false] rfl rfl (take_ofW HT_.out HW_.out (by kernel_rfl)) (fun _ _ _ h => h) (Or.inl ⟨by rfl, ?_⟩) hHeld ?_ ?_
            rotate_left
            · rintro w' ⟨s0, s1⟩
              go_simp
              with_reducible rfl
            rotate_left
            · simp only [Act.put, List.setIfInBounds_toArray, List.set_cons_zero, List.set_cons_succ, i64_w, i32_w]
              rfl
            refine pure_ (i := 6) (N := some 65) (v := ?_) (a' := ?_) #[true, true, true, true, true, true, true, true, true, true, false, true, false, false, false, false] rfl rfl (any_of HT_.out (by kernel_rfl)) (fun _ _ _ h => h) (Or.inl ⟨by rfl, ?_⟩) ?_ ?_
            rotate_left
            · intro w'
              go_simp
              with_reducible rfl
            rotate_left
            · simp only [Act.put, List.setIfInBounds_toArray, List.set_cons_zero, List.set_cons_succ, i64_w, i32_w]
              rfl
            refine take_ (i := 10) (N := some 69) (v := ?_) (a' := ?_) #[true, true, true, true, true, true, true, true, true, true, true, true, false, false, false, false] rfl rfl (take_ofW HT_.out HW_.out (by kernel_rfl)) (fun _ _ _ h => h) (Or.inl ⟨by rfl, ?_⟩) hHeld ?_ ?_
            rotate_left
            · rintro w' ⟨s0, s1⟩
              go_simp
              with_reducible rfl
            rotate_left
            · simp only [Act.put, List.setIfInBounds_toArray, List.set_cons_zero, List.set_cons_succ, i64_w, i32_w]
              rfl
            refine pure_ (i := 12) (N := some 71) (v := ?_) (a' := ?_) #[true, true, true, true, true, true, true, true, true, true, true, true, true, false, false, false] rfl rfl (any_of HT_.out (by kernel_rfl)) (fun _ _ _ h => h) (Or.inl ⟨by rfl, ?_⟩) ?_ ?_
            rotate_left
            · intro w'
              go_simp
              with_reducible rfl
            rotate_left
            · simp only [Act.put, List.setIfInBounds_toArray, List.set_cons_zero, List.set_cons_succ, i64_w, i32_w]
              rfl
            refine pure_ (i := 13) (N := some 72) (v := ?_) (a' := ?_) #[true, true, true, true, true, true, true, true, true, true, true, true, true, true, false, false] rfl rfl (any_of HT_.out (by kernel_rfl)) (fun _ _ _ h => h) (Or.inl ⟨by rfl, ?_⟩) ?_ ?_
            rotate_left
            · intro w'
              go_simp
              with_reducible rfl
            rotate_left
            · simp only [Act.put, List.setIfInBounds_toArray, List.set_cons_zero, List.set_cons_succ, i64_w, i32_w]
              rfl
            refine pure_ (i := 14) (N := some 73) (v := ?_) (a' := ?_) #[true, true, true, true, true, true, true, true, true, true, true, true, true, true, true, false] rfl rfl (any_of HT_.out (by kernel_rfl)) (fun _ _ _ h => h) (Or.inl ⟨by rfl, ?_⟩) ?_ ?_
            rotate_left
            · intro w'
              go_simp
              with_reducible rfl
            rotate_left
            · simp only [Act.put, List.setIfInBounds_toArray, List.set_cons_zero, List.set_cons_succ, i64_w, i32_w]
              rfl
            refine pure_ (i := 15) (N := some 11) (v := ?_) (a' := ?_) #[true, true, true, true, true, true, true, true, true, true, true, true, true, true, true, true] rfl rfl (any_of HT_.out (by kernel_rfl)) (fun _ _ _ h => h) (Or.inl ⟨by rfl, ?_⟩) ?_ ?_
            rotate_left
            · intro w'
              go_simp
              with_reducible rfl
            rotate_left
            · simp only [Act.put, List.setIfInBounds_toArray, List.set_cons_zero, List.set_cons_succ, i64_w, i32_w]
              rfl
            refine done_ (done_of HT_.out (by kernel_rfl)) ?_
            try go_wp2
            have n0_ := Aside0.mk (Kd.R_drew HO_4.out)
            have n1_ := Aside0.mk (IsS41.drew HI132.out)
            have n2_ := Aside0.mk (below_drew1 HB.out)
            clear HO_4
            clear HI132
            clear HB
            have HO_4 := n0_
            have HI132 := n1_
            have HB := n2_
            clear n0_ n1_ n2_
            have p151 : 0 ≤ (x13_1 : Int) := of_decide_eq_true (by first | (with_reducible assumption) | assumption)
            have q151 : x13_1 < (t135.length : Int) := of_decide_eq_true (by first | (with_reducible assumption) | assumption)
            obtain ⟨ad151, e151, hx151_0⟩ := Kd.at_int (Kd.R_reads' HO_4.out).2.2 x13_1 p151 q151
            obtain rfl : ad146 = ad151 := (by injection e151)
            replace p151 := eq_true p151
            replace q151 := eq_true q151
            have p152 : 0 ≤ (x13_1 : Int) := of_decide_eq_true (by first | (with_reducible assumption) | assumption)
            have q152 : x13_1 < (t135.length : Int) := of_decide_eq_true (by first | (with_reducible assumption) | assumption)
            obtain ⟨ad152, e152, hx152_0⟩ := Kd.at_int (Kd.R_reads' HO_4.out).2.2 x13_1 p152 q152
            obtain rfl : ad146 = ad152 := (by injection e152)
            replace p152 := eq_true p152
            replace q152 := eq_true q152
            refine start_ (n := 16) (S := fun w' => w'.cell? (ad146.add (x13_1).toNat) = some (.int .i64 (rd t135 x13_1)) ∧ w'.cell? (ad146.add (x13_1).toNat) = some (.int .i64 (rd t135 x13_1))) (ds := []) #[false, false, false, false, false, false, false, false, false, false, false, false, false, false, false, false] (by kernel_rfl) rfl rfl ⟨hx151_0, hx152_0⟩ (fun hHeld => ?_); refine with_tabW tilefarmlaw7_FixedWithin.tab13 tilefarmlaw7_FixedWithin.bits13 (fun HT_ HW_ => ?_)
            generalize w23.drew = w24 at HO_4 HI132 HB hx151_0 hx152_0 hHeld ⊢
            refine pure_ (i := 0) (N := some 74) (v := ?_) (a' := ?_) #[true, false, false, false, false, false, false, false, false, false, false, false, false, false, false, false] rfl rfl (any_of HT_.out (by kernel_rfl)) (fun _ _ _ h => h) (Or.inl ⟨by rfl, ?_⟩) ?_ ?_
            rotate_left
            · intro w'
              go_simp
              with_reducible rfl
            rotate_left
            · simp only [Act.put, List.setIfInBounds_toArray, List.set_cons_zero, List.set_cons_succ, i64_w, i32_w]
              rfl
            refine pure_ (i := 1) (N := some 75) (v := ?_) (a' := ?_) #[true, true, false, false, false, false, false, false, false, false, false, false, false, false, false, false] rfl rfl (any_of HT_.out (by kernel_rfl)) (fun _ _ _ h => h) (Or.inl ⟨by rfl, ?_⟩) ?_ ?_
            rotate_left
            · intro w'
              go_simp
              with_reducible rfl
            rotate_left
            · simp only [Act.put, List.setIfInBounds_toArray, List.set_cons_zero, List.set_cons_succ, i64_w, i32_w]
              rfl
            refine pure_ (i := 2) (N := some 76) (v := ?_) (a' := ?_) #[true, true, true, false, false, false, false, false, false, false, false, false, false, false, false, false] rfl rfl (any_of HT_.out (by kernel_rfl)) (fun _ _ _ h => h) (Or.inl ⟨by rfl, ?_⟩) ?_ ?_
            rotate_left
            · intro w'
              go_simp
              with_reducible rfl
            rotate_left
            · simp only [Act.put, List.setIfInBounds_toArray, List.set_cons_zero, List.set_cons_succ, i64_w, i32_w]
              rfl
            refine pure_ (i := 3) (N := some 77) (v := ?_) (a' := ?_) #[true, true, true, true, false, false, false, false, false, false, false, false, false, false, false, false] rfl rfl (any_of HT_.out (by kernel_rfl)) (fun _ _ _ h => h) (Or.inl ⟨by rfl, ?_⟩) ?_ ?_
            rotate_left
            · intro w'
              go_simp
              with_reducible rfl
            rotate_left
            · simp only [Act.put, List.setIfInBounds_toArray, List.set_cons_zero, List.set_cons_succ, i64_w, i32_w]
              rfl
            refine pure_ (i := 5) (N := some 79) (v := ?_) (a' := ?_) #[true, true, true, true, false, true, false, false, false, false, false, false, false, false, false, false] rfl rfl (any_of HT_.out (by kernel_rfl)) (fun _ _ _ h => h) (Or.inl ⟨by rfl, ?_⟩) ?_ ?_
            rotate_left
            · intro w'
              go_simp
              with_reducible rfl
            rotate_left
            · simp only [Act.put, List.setIfInBounds_toArray, List.set_cons_zero, List.set_cons_succ, i64_w, i32_w]
              rfl
            refine pure_ (i := 7) (N := some 81) (v := ?_) (a' := ?_) #[true, true, true, true, false, true, false, true, false, false, false, false, false, false, false, false] rfl rfl (any_of HT_.out (by kernel_rfl)) (fun _ _ _ h => h) (Or.inl ⟨by rfl, ?_⟩) ?_ ?_
            rotate_left
            · intro w'
              go_simp
              with_reducible rfl
            rotate_left
            · simp only [Act.put, List.setIfInBounds_toArray, List.set_cons_zero, List.set_cons_succ, i64_w, i32_w]
              rfl
            refine pure_ (i := 8) (N := some 82) (v := ?_) (a' := ?_) #[true, true, true, true, false, true, false, true, true, false, false, false, false, false, false, false] rfl rfl (any_of HT_.out (by kernel_rfl)) (fun _ _ _ h => h) (Or.inl ⟨by rfl, ?_⟩) ?_ ?_
            rotate_left
            · intro w'
              go_simp
              with_reducible rfl
            rotate_left
            · simp only [Act.put, List.setIfInBounds_toArray, List.set_cons_zero, List.set_cons_succ, i64_w, i32_w]
              rfl
            refine pure_ (i := 9) (N := some 83) (v := ?_) (a' := ?_) #[true, true, true, true, false, true, false, true, true, true, false, false, false, false, false, false] rfl rfl (any_of HT_.out (by kernel_rfl)) (fun _ _ _ h => h) (Or.inl ⟨by rfl, ?_⟩) ?_ ?_
            rotate_left
            · intro w'
              go_simp
              with_reducible rfl
            rotate_left
            · simp only [Act.put, List.setIfInBounds_toArray, List.set_cons_zero, List.set_cons_succ, i64_w, i32_w]
              rfl
            refine pure_ (i := 11) (N := some 85) (v := ?_) (a' := ?_) #[true, true, true, true, false, true, false, true, true, true, false, true, false, false, false, false] rfl rfl (any_of HT_.out (by kernel_rfl)) (fun _ _ _ h => h) (Or.inl ⟨by rfl, ?_⟩) ?_ ?_
            rotate_left
            · intro w'
              go_simp
              with_reducible rfl
            rotate_left
            · simp only [Act.put, List.setIfInBounds_toArray, List.set_cons_zero, List.set_cons_succ, i64_w, i32_w]
              rfl
            refine take_ (i := 4) (N := some 78) (v := ?_) (a' := ?_) #[true, true, true, true, true, true, false, true, true, true, false, true, false, false, false, false] rfl rfl (take_ofW HT_.out HW_.out (by kernel_rfl)) (fun _ _ _ h => h) (Or.inl ⟨by rfl, ?_⟩) hHeld ?_ ?_
            rotate_left
            · rintro w' ⟨s0, s1⟩
              go_simp
              with_reducible rfl
            rotate_left
            · simp only [Act.put, List.setIfInBounds_toArray, List.set_cons_zero, List.set_cons_succ, i64_w, i32_w]
              rfl
            refine pure_ (i := 6) (N := some 80) (v := ?_) (a' := ?_) #[true, true, true, true, true, true, true, true, true, true, false, true, false, false, false, false] rfl rfl (any_of HT_.out (by kernel_rfl)) (fun _ _ _ h => h) (Or.inl ⟨by rfl, ?_⟩) ?_ ?_
            rotate_left
            · intro w'
              go_simp
              with_reducible rfl
            rotate_left
            · simp only [Act.put, List.setIfInBounds_toArray, List.set_cons_zero, List.set_cons_succ, i64_w, i32_w]
              rfl
            refine take_ (i := 10) (N := some 84) (v := ?_) (a' := ?_) #[true, true, true, true, true, true, true, true, true, true, true, true, false, false, false, false] rfl rfl (take_ofW HT_.out HW_.out (by kernel_rfl)) (fun _ _ _ h => h) (Or.inl ⟨by rfl, ?_⟩) hHeld ?_ ?_
            rotate_left
            · rintro w' ⟨s0, s1⟩
              go_simp
              with_reducible rfl
            rotate_left
            · simp only [Act.put, List.setIfInBounds_toArray, List.set_cons_zero, List.set_cons_succ, i64_w, i32_w]
              rfl
            refine pure_ (i := 12) (N := some 86) (v := ?_) (a' := ?_) #[true, true, true, true, true, true, true, true, true, true, true, true, true, false, false, false] rfl rfl (any_of HT_.out (by kernel_rfl)) (fun _ _ _ h => h) (Or.inl ⟨by rfl, ?_⟩) ?_ ?_
            rotate_left
            · intro w'
              go_simp
              with_reducible rfl
            rotate_left
            · simp only [Act.put, List.setIfInBounds_toArray, List.set_cons_zero, List.set_cons_succ, i64_w, i32_w]
              rfl
            refine pure_ (i := 13) (N := some 87) (v := ?_) (a' := ?_) #[true, true, true, true, true, true, true, true, true, true, true, true, true, true, false, false] rfl rfl (any_of HT_.out (by kernel_rfl)) (fun _ _ _ h => h) (Or.inl ⟨by rfl, ?_⟩) ?_ ?_
            rotate_left
            · intro w'
              go_simp
              with_reducible rfl
            rotate_left
            · simp only [Act.put, List.setIfInBounds_toArray, List.set_cons_zero, List.set_cons_succ, i64_w, i32_w]
              rfl
            refine pure_ (i := 14) (N := some 88) (v := ?_) (a' := ?_) #[true, true, true, true, true, true, true, true, true, true, true, true, true, true, true, false] rfl rfl (any_of HT_.out (by kernel_rfl)) (fun _ _ _ h => h) (Or.inl ⟨by rfl, ?_⟩) ?_ ?_
            rotate_left
            · intro w'
              go_simp
              with_reducible rfl
            rotate_left
            · simp only [Act.put, List.setIfInBounds_toArray, List.set_cons_zero, List.set_cons_succ, i64_w, i32_w]
              rfl
            refine pure_ (i := 15) (N := some 12) (v := ?_) (a' := ?_) #[true, true, true, true, true, true, true, true, true, true, true, true, true, true, true, true] rfl rfl (any_of HT_.out (by kernel_rfl)) (fun _ _ _ h => h) (Or.inl ⟨by rfl, ?_⟩) ?_ ?_
            rotate_left
            · intro w'
              go_simp
              with_reducible rfl
            rotate_left
            · simp only [Act.put, List.setIfInBounds_toArray, List.set_cons_zero, List.set_cons_succ, i64_w, i32_w]
              rfl
            refine done_ (done_of HT_.out (by kernel_rfl)) ?_
            try go_wp2
            go_roundg k1
            case measure => have := HK1.out; omega
            case rel => exact ⟨(wrap64 (x10_1 + (wrap64 ((rd t135 x13_1) * (wrap64 ((wrap64 (t139 - 150)) + t147)))))), (wrap64 (x11_1 + (ji19))), (wrap64 (x12_1 + (ji20))), (wrap64 (x13_1 + 1)), (t148), (by first | rfl | (simp; done) | (simp [*]; done)), (by first | rfl | (simp; done) | (simp only [← hji19] <;> (first | rfl | simp)) | (simp [*]; done)), (by first | rfl | (simp; done) | (simp only [← hji20] <;> (first | rfl | simp)) | (simp [*]; done)), (by first | rfl | (simp; done) | (simp [*]; done)), H', ⟨by have := HK1.out; omega⟩, ⟨by (with_reducible repeat (first | apply Kd.R_alloc | apply Kd.R_drewN | apply Kd.R_drew)); exact HO_4.out⟩, ⟨by repeat (first | (with_reducible first | exact HI132.out | apply IsS41.alloc | apply IsS41.drewN | apply IsS41.drew | apply IsS41.set_1) | exact HI132.out)⟩, ⟨by repeat (first | (with_reducible first | exact HB.out | apply below_alloc | apply pw_below_drewN | apply below_drew1 | refine below_set ?_ (IsS41.ge HI132.out)) | exact HB.out)⟩⟩
          · rw [if_neg c17] at H
            exact absurd H (by simp)
        · rw [if_neg c16] at H
          have c16b0 : decide (x13_1 < (t135.length : Int)) = false := decide_eq_false c16
          clear c16
          by_cases c25 : t143 ≤ x10_1
          · rw [if_pos c25] at H
            have c25b0 : decide (t143 ≤ x10_1) = true := decide_eq_true c25
            clear c25
            by_cases c26 : x10_1 ≤ t144
            · rw [if_pos c26] at H
              have c26b0 : decide (x10_1 ≤ t144) = true := decide_eq_true c26
              clear c26
              by_cases c27 : x11_1 = t143
              · rw [if_pos c27] at H
                have c27b0 : (x11_1 == t143) = true := beq_iff_eq.mpr c27
                have c27b1 : (x11_1 != t143) = false := bne_eq_false_iff_eq.mpr c27
                clear c27
                by_cases c28 : x12_1 = t144
                · rw [if_pos c28] at H
                  have c28b0 : (x12_1 == t144) = true := beq_iff_eq.mpr c28
                  have c28b1 : (x12_1 != t144) = false := bne_eq_false_iff_eq.mpr c28
                  clear c28
                  replace H := Option.bind_eq_some_iff.mp H
                  obtain ⟨t153, A290, H⟩ := H
                  replace H : (some t153) = some r := H
                  have A29 := Aside0.mk A290
                  clear A290
                  obtain rfl := Option.some.inj H
                  go_wp2_with (first | (go_at_call 15; (with_reducible refine (tilefarmlaw7_sane.calls k1  t153 _ A29.out).mono ?_); rintro e w30 ⟨rfl, hb⟩; have n0_ := Aside0.mk (Kd.R_below (by (with_reducible repeat (first | apply Kd.R_alloc | apply Kd.R_drewN | apply Kd.R_drew)); exact HO_4.out) hb); have n1_ := Aside0.mk (IsS41.below (by repeat (first | (with_reducible first | exact HI132.out | apply IsS41.alloc | apply IsS41.drewN | apply IsS41.drew | apply IsS41.set_1) | exact HI132.out)) hb); have n2_ := Aside0.mk (below_step (by repeat (first | (with_reducible first | exact HB.out | apply below_alloc | apply pw_below_drewN | apply below_drew1 | refine below_set ?_ (IsS41.ge HI132.out)) | exact HB.out)) hb); clear HO_4; clear HI132; clear HB; have HO_4 := n0_; have HI132 := n1_; have HB := n2_; clear n0_ n1_ n2_; (try clear hb); (try clear hb2); (try clear hk); (try clear hi)))
                  go_ret
                  exact ⟨by first | rfl | (simp [errW_none, errW_some] <;> rfl) | (simp [*, errW_none, errW_some] <;> rfl), by repeat (first | (with_reducible first | exact HB.out | apply below_alloc | apply pw_below_drewN | apply below_drew1 | refine below_set ?_ (IsS41.ge HI132.out)) | exact HB.out)⟩
                · rw [if_neg c28] at H
                  have c28b0 : (x12_1 == t144) = false := beq_eq_false_iff_ne.mpr c28
                  have c28b1 : (x12_1 != t144) = true := bne_iff_ne.mpr c28
                  exact absurd ((Option.some.inj H).trans HT.out) (by decide)
              · rw [if_neg c27] at H
                have c27b0 : (x11_1 == t143) = false := beq_eq_false_iff_ne.mpr c27
                have c27b1 : (x11_1 != t143) = true := bne_iff_ne.mpr c27
                exact absurd ((Option.some.inj H).trans HT.out) (by decide)
            · rw [if_neg c26] at H
              have c26b0 : decide (x10_1 ≤ t144) = false := decide_eq_false c26
              clear c26
              exact absurd ((Option.some.inj H).trans HT.out) (by decide)
          · rw [if_neg c25] at H
            have c25b0 : decide (t143 ≤ x10_1) = false := decide_eq_false c25
            clear c25
            exact absurd ((Option.some.inj H).trans HT.out) (by decide)
  · replace c8 := Bool.eq_false_iff.mpr c8
    subst c8
    have H1 : (some false) = some r := by rw [if_neg (show ¬ (false = true) by decide)] at H; exact H
    clear H
    have H := H1
    clear H1
    exact absurd ((Option.some.inj H).trans HT.out) (by decide)

/-- THE ONE PURE STATEMENT of tilefarmlaw7_FixedWithin: yours. -/
def tilefarmlaw7_FixedWithin.Pure : Prop := ∀ (l0 : List Int), l0.length ≤ maxLen → l0.length * 8 ≤ 140737488351232 → (∀ x ∈ l0, (Lit.int .i64 x).wf = true) → ∃ k, tilefarmlaw7_FixedWithin.f k l0 = some true
theorem tilefarmlaw7_FixedWithin.walk (P : tilefarmlaw7_FixedWithin.Pure) (a0 : Option Addr) (len0 cap0 : Nat) (z0 : List Int) (w : World) (w0 : (a0 = none ∧ len0 = 0 ∧ cap0 = 0 ∧ z0 = []) ∨ ∃ x, a0 = some x ∧ len0 ≤ cap0 ∧ cap0 ≤ maxLen ∧ z0.length = cap0 ∧ (∀ i, i < z0.length → w.cell? (x.add i) = some (.int .i64 (z0.getD i 0))) ∧ ∀ n ∈ z0, (Lit.int .i64 n).wf = true) (y0 : len0 * 8 ≤ 140737488351232) :
    Calls Try.prog 4 #[.slice a0 len0 cap0] w fun e w' => e = .returned (.bool true) ∧ Below w.heap.size w w' := by
  obtain ⟨l0, rfl, hr0, hm0, hw0, hc0⟩ := ReadsInt.ofRowC w0
  obtain ⟨k, h⟩ := P l0 hm0 y0 hw0
  refine (tilefarmlaw7_FixedWithin.calls k _ _ l0 true w (Kd.C_of_reads (d := (0 : Int)) (h1 := fun _ => rfl) hr0) hc0 h).mono ?_
  rintro e w' ⟨rfl, hd⟩
  exact ⟨rfl, hd⟩

end Go.Proofs.Ytepbjipmfchpnaa.PFixedWithin
