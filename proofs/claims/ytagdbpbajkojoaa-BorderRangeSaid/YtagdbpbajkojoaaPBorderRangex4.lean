-- Written by a program of the session (wip/tools/myprint.py) over the kit's printer; checked by Lean.
import Derived.Test.YtagdbpbajkojoaaPBorderRangex0
import Derived.Test.YtagdbpbajkojoaaPBorderRangex1
import Derived.Test.YtagdbpbajkojoaaPBorderRangex2
import Derived.Test.YtagdbpbajkojoaaPBorderRangex3
namespace Go.Proofs.Ytagdbpbajkojoaa.PBorderRange
open Go.RowKit Go.Proofs.YtagdbpbajkojoaaW.PrintWords Go.Proofs.YtagdbpbajkojoaaW.PrintLast Go.Proofs.YtagdbpbajkojoaaW.PrintMore
attribute [local go_sem] max2_int min2_int max_two min_two max_three min_three max_four min_four   -- for this text's walks alone
set_option linter.unusedVariables false
set_option linter.unusedSimpArgs false

/-! ### tilefarmlaw3_BorderRange: function 5 -/
mutual
def tilefarmlaw3_BorderRange.l0 : Nat → Int → Int → Int → Int → Int → List Int → Int → Option (Bool)
  | 0, _, _, _, _, _, _, _ => none
  | k + 1, x1, x2, x3, x4, x12, x133000, x133001 => if x12 < 6 then ((tilefarmgen_Tape_Next.f x133000 x133001 60).bind fun bt134 => ((tilefarmgen_Tape_Next.f x133000 bt134.2 9).bind fun bt136 => ((tilefarmgen_Tape_Next.f x133000 bt136.2 5).bind fun bt138 => ((tilefarmgen_Tape_Next.f x133000 bt138.2 12).bind fun bt140 => ((tilefarmgen_Tape_Pick.f x133000 bt140.2 (([bt140.1, 0, (-1), 700, 100000] : List Int))).bind fun bt145 => (if x12 = 5 then ((tilefarmgen_Mod.f x4 4).bind fun t147 => (tilefarmlaw3_BorderRange.j1 k x1 x2 x3 x4 x12 x1 x3 t147 x2 x133000 bt145.2)) else (tilefarmlaw3_BorderRange.j1 k x1 x2 x3 x4 x12 (wrap64 (bt134.1 - 30)) (wrap64 (1 + bt136.1)) bt138.1 (wrap64 ((wrap64 (bt134.1 - 30)) + bt145.1)) x133000 bt145.2))))))) else ((tilefarmlaw3_sane.f k).bind fun t133 => (some t133))
def tilefarmlaw3_BorderRange.j1 : Nat → Int → Int → Int → Int → Int → Int → Int → Int → Int → List Int → Int → Option (Bool)
  | 0, _, _, _, _, _, _, _, _, _, _, _ => none
  | k + 1, x1, x2, x3, x4, x12, x13, x14, x15, x16, x133000, x133001 => (border_Range.f k x13 x16 x14 x15).bind fun bt148 => ((tilefarmref3_Range.f k x13 x16 x14 x15).bind fun bt151 => (if bt148.1 = bt151.1 then (if bt148.2.1 = bt151.2.1 then (if (bt148.2.2 != bt151.2.2) = true then (some false) else (tilefarmlaw3_BorderRange.l0 k x1 x2 x3 x4 (wrap64 (x12 + 1)) x133000 x133001)) else (some false)) else (some false)))
end
def tilefarmlaw3_BorderRange.f (k : Nat) (l0 : List Int) (a1 : Int) (a2 : Int) (a3 : Int) (a4 : Int) : Option (Bool) := (tilefarmgen_New.f l0).bind fun bt130 => (tilefarmlaw3_BorderRange.l0 k a1 a2 a3 a4 0 bt130.1 bt130.2)
theorem tilefarmlaw3_BorderRange.mono_l : ∀ k, (∀ y0 y1 y2 y3 y4 y5 y6, LeO (tilefarmlaw3_BorderRange.l0 k y0 y1 y2 y3 y4 y5 y6) (tilefarmlaw3_BorderRange.l0 (k + 1) y0 y1 y2 y3 y4 y5 y6)) ∧ (∀ y0 y1 y2 y3 y4 y5 y6 y7 y8 y9 y10, LeO (tilefarmlaw3_BorderRange.j1 k y0 y1 y2 y3 y4 y5 y6 y7 y8 y9 y10) (tilefarmlaw3_BorderRange.j1 (k + 1) y0 y1 y2 y3 y4 y5 y6 y7 y8 y9 y10))
  | 0 => ⟨fun _ _ _ _ _ _ _ r h => by simp [tilefarmlaw3_BorderRange.l0] at h, fun _ _ _ _ _ _ _ _ _ _ _ r h => by simp [tilefarmlaw3_BorderRange.j1] at h⟩
  | k + 1 => by
    obtain ⟨ih0, ih1⟩ := tilefarmlaw3_BorderRange.mono_l k
    refine ⟨?_, ?_⟩
    · intro y0 y1 y2 y3 y4 y5 y6
      unfold tilefarmlaw3_BorderRange.l0
      repeat' first
      | (with_reducible exact ih0 _ _ _ _ _ _ _)
      | (with_reducible exact ih1 _ _ _ _ _ _ _ _ _ _ _)
      | (with_reducible exact border_Range.mono _ _ _ _ _)
      | (with_reducible exact tilefarmlaw3_sane.mono _)
      | (with_reducible exact tilefarmref3_Range.mono _ _ _ _ _)
      | (with_reducible exact LeO.refl _)
      | (with_reducible exact LeO.none _)
      | (with_reducible refine LeO.ite ?_ ?_)
      | (with_reducible refine LeO.bind ?_ (fun _ => ?_))
      | exact ih0 _ _ _ _ _ _ _
      | exact ih1 _ _ _ _ _ _ _ _ _ _ _
      | exact border_Range.mono _ _ _ _ _
      | exact tilefarmlaw3_sane.mono _
      | exact tilefarmref3_Range.mono _ _ _ _ _
      | exact LeO.none _
      | refine LeO.ite ?_ ?_
      | refine LeO.bind ?_ (fun _ => ?_)
    · intro y0 y1 y2 y3 y4 y5 y6 y7 y8 y9 y10
      unfold tilefarmlaw3_BorderRange.j1
      repeat' first
      | (with_reducible exact ih0 _ _ _ _ _ _ _)
      | (with_reducible exact ih1 _ _ _ _ _ _ _ _ _ _ _)
      | (with_reducible exact border_Range.mono _ _ _ _ _)
      | (with_reducible exact tilefarmlaw3_sane.mono _)
      | (with_reducible exact tilefarmref3_Range.mono _ _ _ _ _)
      | (with_reducible exact LeO.refl _)
      | (with_reducible exact LeO.none _)
      | (with_reducible refine LeO.ite ?_ ?_)
      | (with_reducible refine LeO.bind ?_ (fun _ => ?_))
      | exact ih0 _ _ _ _ _ _ _
      | exact ih1 _ _ _ _ _ _ _ _ _ _ _
      | exact border_Range.mono _ _ _ _ _
      | exact tilefarmlaw3_sane.mono _
      | exact tilefarmref3_Range.mono _ _ _ _ _
      | exact LeO.none _
      | refine LeO.ite ?_ ?_
      | refine LeO.bind ?_ (fun _ => ?_)
theorem tilefarmlaw3_BorderRange.mono : ∀ a0 a1 a2 a3 a4 k, LeO (tilefarmlaw3_BorderRange.f k a0 a1 a2 a3 a4) (tilefarmlaw3_BorderRange.f (k + 1) a0 a1 a2 a3 a4) := by
  intro a0 a1 a2 a3 a4 k
  obtain ⟨ih0, ih1⟩ := tilefarmlaw3_BorderRange.mono_l k
  unfold tilefarmlaw3_BorderRange.f
  repeat' first
      | (with_reducible exact ih0 _ _ _ _ _ _ _)
      | (with_reducible exact ih1 _ _ _ _ _ _ _ _ _ _ _)
      | (with_reducible exact border_Range.mono _ _ _ _ _)
      | (with_reducible exact tilefarmlaw3_sane.mono _)
      | (with_reducible exact tilefarmref3_Range.mono _ _ _ _ _)
      | (with_reducible exact LeO.refl _)
      | (with_reducible exact LeO.none _)
      | (with_reducible refine LeO.ite ?_ ?_)
      | (with_reducible refine LeO.bind ?_ (fun _ => ?_))
      | exact ih0 _ _ _ _ _ _ _
      | exact ih1 _ _ _ _ _ _ _ _ _ _ _
      | exact border_Range.mono _ _ _ _ _
      | exact tilefarmlaw3_sane.mono _
      | exact tilefarmref3_Range.mono _ _ _ _ _
      | exact LeO.none _
      | refine LeO.ite ?_ ?_
      | refine LeO.bind ?_ (fun _ => ?_)
set_option maxHeartbeats 8000000 in
set_option maxRecDepth 100000 in
theorem tilefarmlaw3_BorderRange.calls (k : Nat) (A0 : Option Addr) (c0 : Nat) (l0 : List Int) (a1 : Int) (a2 : Int) (a3 : Int) (a4 : Int) (r : Bool) (w : World) (hr0 : Kd.C (Kd.int .i64) w A0 l0.length l0) (hc0 : l0.length ≤ c0) (h : tilefarmlaw3_BorderRange.f k l0 a1 a2 a3 a4 = some r) :
    Calls Try.prog 5 #[.slice A0 l0.length c0, .int .i64 a1, .int .i64 a2, .int .i64 a3, .int .i64 a4] w fun e w' => e = .returned (.bool r) ∧ Below w.heap.size w w' := by
  have HR0 := Aside0.mk hr0
  have HC0 := Aside0.mk hc0
  clear hr0 hc0
  have HB := Aside0.mk (Below.refl w.heap.size w)
  have H : ((tilefarmgen_New.f l0).bind fun bt130 => (tilefarmlaw3_BorderRange.l0 k a1 a2 a3 a4 0 bt130.1 bt130.2)) = some r := h
  clear h
  replace H := Option.bind_eq_some_iff.mp H
  obtain ⟨⟨t130, t131⟩, A60, H⟩ := H
  replace H : (tilefarmlaw3_BorderRange.l0 k a1 a2 a3 a4 0 t130 t131) = some r := H
  have A6 := Aside0.mk A60
  clear A60
  have H' := Aside0.mk H
  clear H
  go_enter Try.func5, Try.ntmps5
  go_wp2_with (first | ((with_reducible refine gate_callee (f := 14) rfl ?_); refine goesL_ (some 24) rfl rfl Try.func14 (by kernel_rfl) rfl #[.slice A0 l0.length c0] rfl (by (try simp only [List.map_toArray, List.map_cons, List.map_nil]); first | done | rfl | (simp only [List.length_drop, List.length_take]; rfl)) ?_; (with_reducible refine (tilefarmgen_New.calls _ _ l0 t130 t131 w _ ?side1 ?side2 ?side3 A6.out).mono ?_); (case side1 => repeat (first | (with_reducible first | exact HB.out | apply below_alloc | apply pw_below_drewN | apply below_drew1) | exact HB.out)); (case side2 => exact HR0.out); (case side3 => exact HC0.out); rintro e w7 ⟨g132, rfl, hi, hb, hb2⟩; refine ⟨_, rfl, ?_⟩; have n0_ := Aside0.mk (hb); have n1_ := Aside0.mk (hi); clear HB; have HB := n0_; have HI132 := n1_; clear n0_ n1_; (try clear hb); (try clear hb2); (try clear hk); (try clear hi)))
  go_loopg [12] k (fun kq v12 w' => ∃ (x12_1 : Int) (x133001_1 : Int), v12 = .int .i64 x12_1 ∧ Aside0 (tilefarmlaw3_BorderRange.l0 kq a1 a2 a3 a4 x12_1 t130 x133001_1 = some r) ∧ Aside0 (kq ≤ k) ∧ Aside0 (IsS41 w w' g132 t130 x133001_1) ∧ Aside0 (Below w.heap.size w w'))
  case atStart => exact ⟨(0), (t131), (by first | rfl | (simp; done) | (simp [*]; done)), H', ⟨Nat.le_refl _⟩, ⟨by repeat (first | (with_reducible first | exact HI132.out | apply IsS41.alloc | apply IsS41.drewN | apply IsS41.drew | apply IsS41.set_1) | exact HI132.out)⟩, ⟨by repeat (first | (with_reducible first | exact HB.out | apply below_alloc | apply pw_below_drewN | apply below_drew1 | refine below_set ?_ (IsS41.ge HI132.out)) | exact HB.out)⟩⟩
  case round =>
    clear H'
    try clear c1
    try clear p2
    try clear c5
    obtain ⟨x12_1, x133001_1, rfl, HA, HK1, HI132, HB⟩ := hrel
    cases gk with
    | zero => exact absurd HA.out (by simp [tilefarmlaw3_BorderRange.l0])
    | succ k1 =>
      have H := HA.out
      clear HA
      simp only [tilefarmlaw3_BorderRange.l0] at H
      by_cases c8 : x12_1 < 6
      · rw [if_pos c8] at H
        have c8b0 : decide (x12_1 < 6) = true := decide_eq_true c8
        clear c8
        replace H := Option.bind_eq_some_iff.mp H
        obtain ⟨⟨t134, t135⟩, A90, H⟩ := H
        replace H : ((tilefarmgen_Tape_Next.f t130 t135 9).bind fun bt136 => ((tilefarmgen_Tape_Next.f t130 bt136.2 5).bind fun bt138 => ((tilefarmgen_Tape_Next.f t130 bt138.2 12).bind fun bt140 => ((tilefarmgen_Tape_Pick.f t130 bt140.2 (([bt140.1, 0, (-1), 700, 100000] : List Int))).bind fun bt145 => (if x12_1 = 5 then ((tilefarmgen_Mod.f a4 4).bind fun t147 => (tilefarmlaw3_BorderRange.j1 k1 a1 a2 a3 a4 x12_1 a1 a3 t147 a2 t130 bt145.2)) else (tilefarmlaw3_BorderRange.j1 k1 a1 a2 a3 a4 x12_1 (wrap64 (t134 - 30)) (wrap64 (1 + bt136.1)) bt138.1 (wrap64 ((wrap64 (t134 - 30)) + bt145.1)) t130 bt145.2)))))) = some r := H
        have A9 := Aside0.mk A90
        clear A90
        replace H := Option.bind_eq_some_iff.mp H
        obtain ⟨⟨t136, t137⟩, A100, H⟩ := H
        replace H : ((tilefarmgen_Tape_Next.f t130 t137 5).bind fun bt138 => ((tilefarmgen_Tape_Next.f t130 bt138.2 12).bind fun bt140 => ((tilefarmgen_Tape_Pick.f t130 bt140.2 (([bt140.1, 0, (-1), 700, 100000] : List Int))).bind fun bt145 => (if x12_1 = 5 then ((tilefarmgen_Mod.f a4 4).bind fun t147 => (tilefarmlaw3_BorderRange.j1 k1 a1 a2 a3 a4 x12_1 a1 a3 t147 a2 t130 bt145.2)) else (tilefarmlaw3_BorderRange.j1 k1 a1 a2 a3 a4 x12_1 (wrap64 (t134 - 30)) (wrap64 (1 + t136)) bt138.1 (wrap64 ((wrap64 (t134 - 30)) + bt145.1)) t130 bt145.2))))) = some r := H
        have A10 := Aside0.mk A100
        clear A100
        replace H := Option.bind_eq_some_iff.mp H
        obtain ⟨⟨t138, t139⟩, A110, H⟩ := H
        replace H : ((tilefarmgen_Tape_Next.f t130 t139 12).bind fun bt140 => ((tilefarmgen_Tape_Pick.f t130 bt140.2 (([bt140.1, 0, (-1), 700, 100000] : List Int))).bind fun bt145 => (if x12_1 = 5 then ((tilefarmgen_Mod.f a4 4).bind fun t147 => (tilefarmlaw3_BorderRange.j1 k1 a1 a2 a3 a4 x12_1 a1 a3 t147 a2 t130 bt145.2)) else (tilefarmlaw3_BorderRange.j1 k1 a1 a2 a3 a4 x12_1 (wrap64 (t134 - 30)) (wrap64 (1 + t136)) t138 (wrap64 ((wrap64 (t134 - 30)) + bt145.1)) t130 bt145.2)))) = some r := H
        have A11 := Aside0.mk A110
        clear A110
        replace H := Option.bind_eq_some_iff.mp H
        obtain ⟨⟨t140, t141⟩, A120, H⟩ := H
        replace H : ((tilefarmgen_Tape_Pick.f t130 t141 (([t140, 0, (-1), 700, 100000] : List Int))).bind fun bt145 => (if x12_1 = 5 then ((tilefarmgen_Mod.f a4 4).bind fun t147 => (tilefarmlaw3_BorderRange.j1 k1 a1 a2 a3 a4 x12_1 a1 a3 t147 a2 t130 bt145.2)) else (tilefarmlaw3_BorderRange.j1 k1 a1 a2 a3 a4 x12_1 (wrap64 (t134 - 30)) (wrap64 (1 + t136)) t138 (wrap64 ((wrap64 (t134 - 30)) + bt145.1)) t130 bt145.2))) = some r := H
        have A12 := Aside0.mk A120
        clear A120
        obtain ⟨y142, hy142⟩ : ∃ y_ : List Int, y_ = (([t140, 0, (-1), 700, 100000] : List Int)) := ⟨_, rfl⟩
        replace H : ((tilefarmgen_Tape_Pick.f t130 t141 y142).bind fun bt145 => (if x12_1 = 5 then ((tilefarmgen_Mod.f a4 4).bind fun t147 => (tilefarmlaw3_BorderRange.j1 k1 a1 a2 a3 a4 x12_1 a1 a3 t147 a2 t130 bt145.2)) else (tilefarmlaw3_BorderRange.j1 k1 a1 a2 a3 a4 x12_1 (wrap64 (t134 - 30)) (wrap64 (1 + t136)) t138 (wrap64 ((wrap64 (t134 - 30)) + bt145.1)) t130 bt145.2))) = some r := by first | (rw [hy142]; with_reducible exact H) | (have H2_ := (Option.bind_some _ _).symm.trans H; rw [hy142]; with_reducible exact H2_) | (have H2_ := (Option.bind_some _ _).symm.trans H; with_reducible exact H2_) | with_reducible exact H | (rw [hy142]; exact H) | exact H
        have Ny142 := Aside0.mk hy142
        clear hy142
        replace H := Option.bind_eq_some_iff.mp H
        obtain ⟨⟨t145, t146⟩, A130, H⟩ := H
        replace H : (if x12_1 = 5 then ((tilefarmgen_Mod.f a4 4).bind fun t147 => (tilefarmlaw3_BorderRange.j1 k1 a1 a2 a3 a4 x12_1 a1 a3 t147 a2 t130 t146)) else (tilefarmlaw3_BorderRange.j1 k1 a1 a2 a3 a4 x12_1 (wrap64 (t134 - 30)) (wrap64 (1 + t136)) t138 (wrap64 ((wrap64 (t134 - 30)) + t145)) t130 t146)) = some r := H
        have A13 := Aside0.mk A130
        clear A130
        have HC14 := Aside0.mk H
        clear H
        go_upto_if 45 with (first | ((with_reducible refine gate_callee (f := 15) rfl ?_); refine goesL_ (some 30) rfl rfl Try.func15 (by kernel_rfl) rfl #[.pointer (some ⟨g132, 0, none⟩), .int .i64 60] rfl (by (try simp only [List.map_toArray, List.map_cons, List.map_nil]); first | done | rfl | (simp only [List.length_drop, List.length_take]; rfl)) ?_; (with_reducible refine (tilefarmgen_Tape_Next.calls g132 t130 x133001_1 60 t134 t135 w _ ?side1 ?side2 A9.out).mono ?_); (case side1 => repeat (first | (with_reducible first | exact HI132.out | apply IsS41.alloc | apply IsS41.drewN | apply IsS41.drew | apply IsS41.set_1) | exact HI132.out)); (case side2 => repeat (first | (with_reducible first | exact HB.out | apply below_alloc | apply pw_below_drewN | apply below_drew1 | refine below_set ?_ (IsS41.ge HI132.out)) | exact HB.out)); rintro e w15 ⟨rfl, hi, hb, hk⟩; refine ⟨_, rfl, ?_⟩; have n0_ := Aside0.mk (hb); have n1_ := Aside0.mk (hi); clear HB; clear HI132; have HB := n0_; have HI132 := n1_; clear n0_ n1_; (try clear hb); (try clear hb2); (try clear hk); (try clear hi)) | ((with_reducible refine gate_callee (f := 15) rfl ?_); refine goesL_ (some 33) rfl rfl Try.func15 (by kernel_rfl) rfl #[.pointer (some ⟨g132, 0, none⟩), .int .i64 9] rfl (by (try simp only [List.map_toArray, List.map_cons, List.map_nil]); first | done | rfl | (simp only [List.length_drop, List.length_take]; rfl)) ?_; (with_reducible refine (tilefarmgen_Tape_Next.calls g132 t130 t135 9 t136 t137 w _ ?side1 ?side2 A10.out).mono ?_); (case side1 => repeat (first | (with_reducible first | exact HI132.out | apply IsS41.alloc | apply IsS41.drewN | apply IsS41.drew | apply IsS41.set_1) | exact HI132.out)); (case side2 => repeat (first | (with_reducible first | exact HB.out | apply below_alloc | apply pw_below_drewN | apply below_drew1 | refine below_set ?_ (IsS41.ge HI132.out)) | exact HB.out)); rintro e w16 ⟨rfl, hi, hb, hk⟩; refine ⟨_, rfl, ?_⟩; have n0_ := Aside0.mk (hb); have n1_ := Aside0.mk (hi); clear HB; clear HI132; have HB := n0_; have HI132 := n1_; clear n0_ n1_; (try clear hb); (try clear hb2); (try clear hk); (try clear hi)) | ((with_reducible refine gate_callee (f := 15) rfl ?_); refine goesL_ (some 36) rfl rfl Try.func15 (by kernel_rfl) rfl #[.pointer (some ⟨g132, 0, none⟩), .int .i64 5] rfl (by (try simp only [List.map_toArray, List.map_cons, List.map_nil]); first | done | rfl | (simp only [List.length_drop, List.length_take]; rfl)) ?_; (with_reducible refine (tilefarmgen_Tape_Next.calls g132 t130 t137 5 t138 t139 w _ ?side1 ?side2 A11.out).mono ?_); (case side1 => repeat (first | (with_reducible first | exact HI132.out | apply IsS41.alloc | apply IsS41.drewN | apply IsS41.drew | apply IsS41.set_1) | exact HI132.out)); (case side2 => repeat (first | (with_reducible first | exact HB.out | apply below_alloc | apply pw_below_drewN | apply below_drew1 | refine below_set ?_ (IsS41.ge HI132.out)) | exact HB.out)); rintro e w17 ⟨rfl, hi, hb, hk⟩; refine ⟨_, rfl, ?_⟩; have n0_ := Aside0.mk (hb); have n1_ := Aside0.mk (hi); clear HB; clear HI132; have HB := n0_; have HI132 := n1_; clear n0_ n1_; (try clear hb); (try clear hb2); (try clear hk); (try clear hi)) | ((with_reducible refine gate_callee (f := 15) rfl ?_); refine goesL_ (some 40) rfl rfl Try.func15 (by kernel_rfl) rfl #[.pointer (some ⟨g132, 0, none⟩), .int .i64 12] rfl (by (try simp only [List.map_toArray, List.map_cons, List.map_nil]); first | done | rfl | (simp only [List.length_drop, List.length_take]; rfl)) ?_; (with_reducible refine (tilefarmgen_Tape_Next.calls g132 t130 t139 12 t140 t141 w _ ?side1 ?side2 A12.out).mono ?_); (case side1 => repeat (first | (with_reducible first | exact HI132.out | apply IsS41.alloc | apply IsS41.drewN | apply IsS41.drew | apply IsS41.set_1) | exact HI132.out)); (case side2 => repeat (first | (with_reducible first | exact HB.out | apply below_alloc | apply pw_below_drewN | apply below_drew1 | refine below_set ?_ (IsS41.ge HI132.out)) | exact HB.out)); rintro e w18 ⟨rfl, hi, hb, hk⟩; refine ⟨_, rfl, ?_⟩; have n0_ := Aside0.mk (hb); have n1_ := Aside0.mk (hi); clear HB; clear HI132; have HB := n0_; have HI132 := n1_; clear n0_ n1_; (try clear hb); (try clear hb2); (try clear hk); (try clear hi)) | ((with_reducible refine gate_dst (N := 41) rfl ?_); refine Kd.R_lit (Kd.int .i64) _ 3 ?hg (N := 41) ?hd (xs := ([t140, 0, (-1), 700, 100000] : List Int)) (inner := [.int .i64 t140, .int .i64 0, .int .i64 (-1), .int .i64 700, .int .i64 100000]) (ok := fun _ => True) (okp := fun _ => True) ?hr ?hp (fun _ hk => hk) trivial (Below.refl _ _) (Nat.le_refl _) (by simp) ?_; (case hd => rfl); (case hg => rfl); (case hr => first | (go_simp; done) | (go_simp; rfl)); (case hp => exact (Reps.one (show Kd.M (Kd.int .i64) _ _ _ t140 [.int .i64 t140] from rfl) (Reps.one (show Kd.M (Kd.int .i64) _ _ _ 0 [.int .i64 0] from rfl) (Reps.one (show Kd.M (Kd.int .i64) _ _ _ (-1) [.int .i64 (-1)] from rfl) (Reps.one (show Kd.M (Kd.int .i64) _ _ _ 700 [.int .i64 700] from rfl) (Reps.one (show Kd.M (Kd.int .i64) _ _ _ 100000 [.int .i64 100000] from rfl) (Reps.none _ _))))))); intro v143 w19 ho20 hb hg_ hnew_; clear hg_ hnew_; (first | rw [← Ny142.out] at ho20 | (simp only [Int.reduceToNat] at ho20; rw [← Ny142.out] at ho20)); have n0_ := Aside0.mk (Kd.R_lower ho20 (below_size (by repeat (first | (with_reducible first | exact HB.out | apply below_alloc | apply pw_below_drewN | apply below_drew1 | refine below_set ?_ (IsS41.ge HI132.out)) | exact HB.out)))); have n1_ := Aside0.mk (IsS41.below (by repeat (first | (with_reducible first | exact HI132.out | apply IsS41.alloc | apply IsS41.drewN | apply IsS41.drew | apply IsS41.set_1) | exact HI132.out)) hb); have n2_ := Aside0.mk (below_step (by repeat (first | (with_reducible first | exact HB.out | apply below_alloc | apply pw_below_drewN | apply below_drew1 | refine below_set ?_ (IsS41.ge HI132.out)) | exact HB.out)) hb); clear HI132; clear HB; have HO144 := n0_; have HI132 := n1_; have HB := n2_; clear n0_ n1_ n2_; clear hb ho20; obtain ⟨Ao21, co21, eo21⟩ := Kd.R_slice HO144.out; subst eo21) | ((with_reducible refine gate_callee (f := 16) rfl ?_); refine goesL_ (some 42) rfl rfl Try.func16 (by kernel_rfl) rfl #[.pointer (some ⟨g132, 0, none⟩), .slice Ao21 y142.length co21] rfl (by (try simp only [List.map_toArray, List.map_cons, List.map_nil]); first | done | rfl | (simp only [List.length_drop, List.length_take]; rfl)) ?_; (with_reducible refine (tilefarmgen_Tape_Pick.calls g132 t130 t141 _ _ y142 t145 t146 w _ ?side1 ?side2 ?side3 ?side4 ?side5 A13.out).mono ?_); (case side1 => repeat (first | (with_reducible first | exact HI132.out | apply IsS41.alloc | apply IsS41.drewN | apply IsS41.drew | apply IsS41.set_1) | exact HI132.out)); (case side2 => repeat (first | (with_reducible first | exact HB.out | apply below_alloc | apply pw_below_drewN | apply below_drew1 | refine below_set ?_ (IsS41.ge HI132.out)) | exact HB.out)); (case side3 => repeat (first | exact (Kd.R_reads' HO144.out).2.2 | (with_reducible refine Kd.C_alloc ?_ _) | (with_reducible refine Kd.C_drewN ?_ _) | (with_reducible refine Kd.C_drew ?_))); (case side4 => exact (Kd.R_reads' HO144.out).2.1); (case side5 => exact far_slice (IsS41.own_ne HI132.out HO144.out (by decide))); rintro e w22 ⟨rfl, hi, hb, hk⟩; refine ⟨_, rfl, ?_⟩; have n0_ := Aside0.mk (Kd.R_mono (Kd.R_keep (IsS41.apart (show IsS41 w _ g132 t130 t141 from by repeat (first | (with_reducible first | exact HI132.out | apply IsS41.alloc | apply IsS41.drewN | apply IsS41.drew | apply IsS41.set_1) | exact HI132.out)) (by (with_reducible repeat (first | apply Kd.R_alloc | apply Kd.R_drewN | apply Kd.R_drew)); exact HO144.out) (by decide)) hk (fun _ h => h.2)) (fun _ h => h.1)); have n1_ := Aside0.mk (hb); have n2_ := Aside0.mk (hi); clear HO144; clear HB; clear HI132; have HO144 := n0_; have HB := n1_; have HI132 := n2_; clear n0_ n1_ n2_; (try clear hb); (try clear hb2); (try clear hk); (try clear hi)))
        (try simp only [Act.put, List.setIfInBounds_toArray, List.set_cons_zero, List.set_cons_succ])
        go_cut [13, 14, 15, 16] (fun v13 v14 v15 v16 wc => ∃ (kq : Nat) (x13_13 : Int) (x14_13 : Int) (x15_13 : Int) (x16_13 : Int), v13 = .int .i64 x13_13 ∧ v14 = .int .i64 x14_13 ∧ v15 = .int .i64 x15_13 ∧ v16 = .int .i64 x16_13 ∧ Aside0 (tilefarmlaw3_BorderRange.j1 kq a1 a2 a3 a4 x12_1 x13_13 x14_13 x15_13 x16_13 t130 t146 = some r) ∧ Aside0 (kq ≤ k1) ∧ Aside0 (IsS41 w wc g132 t130 t146) ∧ Aside0 (Below w.heap.size w wc))
        case first =>
          have H := HC14.out
          clear HC14
          by_cases c23 : x12_1 = 5
          · rw [if_pos c23] at H
            have c23b0 : (x12_1 == 5) = true := beq_iff_eq.mpr c23
            have c23b1 : (x12_1 != 5) = false := bne_eq_false_iff_eq.mpr c23
            clear c23
            (first | rw [c23b0] | (simp only [i64_w, i32_w]; rw [c23b0]) | skip)
            replace H := Option.bind_eq_some_iff.mp H
            obtain ⟨t147, A240, H⟩ := H
            replace H : (tilefarmlaw3_BorderRange.j1 k1 a1 a2 a3 a4 x12_1 a1 a3 t147 a2 t130 t146) = some r := H
            have A24 := Aside0.mk A240
            clear A240
            have H' := Aside0.mk H
            clear H
            go_wp2_with (first | ((with_reducible refine gate_callee (f := 8) rfl ?_); refine goesL_ (some 50) rfl rfl Try.func8 (by kernel_rfl) rfl #[.int .i64 a4, .int .i64 4] rfl (by (try simp only [List.map_toArray, List.map_cons, List.map_nil]); first | done | rfl | (simp only [List.length_drop, List.length_take]; rfl)) ?_; (with_reducible refine (tilefarmgen_Mod.calls a4 4 t147 _ A24.out).mono ?_); rintro e w' ⟨rfl, ⟨nd, rfl⟩⟩; refine ⟨_, rfl, ?_⟩))
            go_meet
            case rel => exact ⟨_, (a1), (a3), (t147), (a2), (by first | rfl | (simp; done) | (simp [*]; done)), (by first | rfl | (simp; done) | (simp [*]; done)), (by first | rfl | (simp; done) | (simp [*]; done)), (by first | rfl | (simp; done) | (simp [*]; done)), H', ⟨by have := HK1.out; first | omega | exact Nat.le_refl _⟩, ⟨by repeat (first | (with_reducible first | exact HI132.out | apply IsS41.alloc | apply IsS41.drewN | apply IsS41.drew | apply IsS41.set_1) | exact HI132.out)⟩, ⟨by repeat (first | (with_reducible first | exact HB.out | apply below_alloc | apply pw_below_drewN | apply below_drew1 | refine below_set ?_ (IsS41.ge HI132.out)) | exact HB.out)⟩⟩
          · rw [if_neg c23] at H
            have c23b0 : (x12_1 == 5) = false := beq_eq_false_iff_ne.mpr c23
            have c23b1 : (x12_1 != 5) = true := bne_iff_ne.mpr c23
            (first | rw [c23b0] | (simp only [i64_w, i32_w]; rw [c23b0]) | skip)
            have H' := Aside0.mk H
            clear H
            go_wp2
            go_meet
            case rel => exact ⟨_, (wrap64 (t134 - 30)), (wrap64 (1 + t136)), (t138), (wrap64 ((wrap64 (t134 - 30)) + t145)), (by first | rfl | (simp; done) | (simp [*]; done)), (by first | rfl | (simp; done) | (simp [*]; done)), (by first | rfl | (simp; done) | (simp [*]; done)), (by first | rfl | (simp; done) | (simp [*]; done)), H', ⟨by have := HK1.out; first | omega | exact Nat.le_refl _⟩, ⟨by repeat (first | (with_reducible first | exact HI132.out | apply IsS41.alloc | apply IsS41.drewN | apply IsS41.drew | apply IsS41.set_1) | exact HI132.out)⟩, ⟨by repeat (first | (with_reducible first | exact HB.out | apply below_alloc | apply pw_below_drewN | apply below_drew1 | refine below_set ?_ (IsS41.ge HI132.out)) | exact HB.out)⟩⟩
        case rest =>
          clear HC14
          try clear c1
          try clear c2
          try clear p2
          try clear c5
          try clear p6
          try clear c8
          try clear c8b0
          try clear c14
          try clear c15
          try clear c16
          try clear c23
          try clear c23b0
          try clear c23b1
          try clear p2
          obtain ⟨kq, x13_13, x14_13, x15_13, x16_13, rfl, rfl, rfl, rfl, HA, HJ13, HI132, HB⟩ := hcut
          cases kq with
          | zero => exact absurd HA.out (by simp [tilefarmlaw3_BorderRange.j1])
          | succ kj13 =>
            have H := HA.out
            clear HA
            simp only [tilefarmlaw3_BorderRange.j1] at H
            replace H := Option.bind_eq_some_iff.mp H
            obtain ⟨⟨t148, t149, t150⟩, A250, H⟩ := H
            replace H : ((tilefarmref3_Range.f kj13 x13_13 x16_13 x14_13 x15_13).bind fun bt151 => (if t148 = bt151.1 then (if t149 = bt151.2.1 then (if (t150 != bt151.2.2) = true then (some false) else (tilefarmlaw3_BorderRange.l0 kj13 a1 a2 a3 a4 (wrap64 (x12_1 + 1)) t130 t146)) else (some false)) else (some false))) = some r := H
            have A25 := Aside0.mk A250
            clear A250
            replace H := Option.bind_eq_some_iff.mp H
            obtain ⟨⟨t151, t152, t153⟩, A260, H⟩ := H
            replace H : (if t148 = t151 then (if t149 = t152 then (if (t150 != t153) = true then (some false) else (tilefarmlaw3_BorderRange.l0 kj13 a1 a2 a3 a4 (wrap64 (x12_1 + 1)) t130 t146)) else (some false)) else (some false)) = some r := H
            have A26 := Aside0.mk A260
            clear A260
            by_cases c27 : t148 = t151
            · rw [if_pos c27] at H
              have c27b0 : (t148 == t151) = true := beq_iff_eq.mpr c27
              have c27b1 : (t148 != t151) = false := bne_eq_false_iff_eq.mpr c27
              clear c27
              by_cases c28 : t149 = t152
              · rw [if_pos c28] at H
                have c28b0 : (t149 == t152) = true := beq_iff_eq.mpr c28
                have c28b1 : (t149 != t152) = false := bne_eq_false_iff_eq.mpr c28
                clear c28
                by_cases c29 : (t150 != t153) = true
                · rw [if_pos c29] at H
                  have c29b0 : (t150 != t153) = true := c29
                  (try (have c29b1 : decide (t150 = t153) = false := by simpa using c29))
                  (try (have c29b2 : (t150 == t153) = false := by simpa using c29))
                  (try (have c29b3 : ¬ (t150 = t153) := by simpa using c29))
                  clear c29
                  obtain rfl := Option.some.inj H
                  go_wp2_with (first | ((with_reducible refine gate_callee (f := 17) rfl ?_); refine goesL_ (some 56) rfl rfl Try.func17 (by kernel_rfl) rfl #[.int .i64 x13_13, .int .i64 x16_13, .int .i64 x14_13, .int .i64 x15_13] rfl (by (try simp only [List.map_toArray, List.map_cons, List.map_nil]); first | done | rfl | (simp only [List.length_drop, List.length_take]; rfl)) ?_; (with_reducible refine (border_Range.calls kj13 x13_13 x16_13 x14_13 x15_13 t148 t149 t150 _ A25.out).mono ?_); rintro e w30 ⟨rfl, hb⟩; refine ⟨_, rfl, ?_⟩; have n0_ := Aside0.mk (IsS41.below (by repeat (first | (with_reducible first | exact HI132.out | apply IsS41.alloc | apply IsS41.drewN | apply IsS41.drew | apply IsS41.set_1) | exact HI132.out)) hb); have n1_ := Aside0.mk (below_step (by repeat (first | (with_reducible first | exact HB.out | apply below_alloc | apply pw_below_drewN | apply below_drew1 | refine below_set ?_ (IsS41.ge HI132.out)) | exact HB.out)) hb); clear HI132; clear HB; have HI132 := n0_; have HB := n1_; clear n0_ n1_; (try clear hb); (try clear hb2); (try clear hk); (try clear hi)) | ((with_reducible refine gate_callee (f := 18) rfl ?_); refine goesL_ (some 65) rfl rfl Try.func18 (by kernel_rfl) rfl #[.int .i64 x13_13, .int .i64 x16_13, .int .i64 x14_13, .int .i64 x15_13] rfl (by (try simp only [List.map_toArray, List.map_cons, List.map_nil]); first | done | rfl | (simp only [List.length_drop, List.length_take]; rfl)) ?_; (with_reducible refine (tilefarmref3_Range.calls kj13 x13_13 x16_13 x14_13 x15_13 t151 t152 t153 _ A26.out).mono ?_); rintro e w31 ⟨rfl, hb⟩; refine ⟨_, rfl, ?_⟩; have n0_ := Aside0.mk (IsS41.below (by repeat (first | (with_reducible first | exact HI132.out | apply IsS41.alloc | apply IsS41.drewN | apply IsS41.drew | apply IsS41.set_1) | exact HI132.out)) hb); have n1_ := Aside0.mk (below_step (by repeat (first | (with_reducible first | exact HB.out | apply below_alloc | apply pw_below_drewN | apply below_drew1 | refine below_set ?_ (IsS41.ge HI132.out)) | exact HB.out)) hb); clear HI132; clear HB; have HI132 := n0_; have HB := n1_; clear n0_ n1_; (try clear hb); (try clear hb2); (try clear hk); (try clear hi)))
                  go_ret
                  exact ⟨by first | rfl | (simp [errW_none, errW_some] <;> rfl) | (simp [*, errW_none, errW_some] <;> rfl), by repeat (first | (with_reducible first | exact HB.out | apply below_alloc | apply pw_below_drewN | apply below_drew1 | refine below_set ?_ (IsS41.ge HI132.out)) | exact HB.out)⟩
                · rw [if_neg c29] at H
                  have c29b0 : (t150 != t153) = false := by simpa using c29
                  (try (have c29b1 : decide (t150 = t153) = true := by simpa using c29))
                  (try (have c29b2 : (t150 == t153) = true := by simpa using c29))
                  clear c29
                  have H' := Aside0.mk H
                  clear H
                  go_wp2_with (first | ((with_reducible refine gate_callee (f := 17) rfl ?_); refine goesL_ (some 56) rfl rfl Try.func17 (by kernel_rfl) rfl #[.int .i64 x13_13, .int .i64 x16_13, .int .i64 x14_13, .int .i64 x15_13] rfl (by (try simp only [List.map_toArray, List.map_cons, List.map_nil]); first | done | rfl | (simp only [List.length_drop, List.length_take]; rfl)) ?_; (with_reducible refine (border_Range.calls kj13 x13_13 x16_13 x14_13 x15_13 t148 t149 t150 _ A25.out).mono ?_); rintro e w32 ⟨rfl, hb⟩; refine ⟨_, rfl, ?_⟩; have n0_ := Aside0.mk (IsS41.below (by repeat (first | (with_reducible first | exact HI132.out | apply IsS41.alloc | apply IsS41.drewN | apply IsS41.drew | apply IsS41.set_1) | exact HI132.out)) hb); have n1_ := Aside0.mk (below_step (by repeat (first | (with_reducible first | exact HB.out | apply below_alloc | apply pw_below_drewN | apply below_drew1 | refine below_set ?_ (IsS41.ge HI132.out)) | exact HB.out)) hb); clear HI132; clear HB; have HI132 := n0_; have HB := n1_; clear n0_ n1_; (try clear hb); (try clear hb2); (try clear hk); (try clear hi)) | ((with_reducible refine gate_callee (f := 18) rfl ?_); refine goesL_ (some 65) rfl rfl Try.func18 (by kernel_rfl) rfl #[.int .i64 x13_13, .int .i64 x16_13, .int .i64 x14_13, .int .i64 x15_13] rfl (by (try simp only [List.map_toArray, List.map_cons, List.map_nil]); first | done | rfl | (simp only [List.length_drop, List.length_take]; rfl)) ?_; (with_reducible refine (tilefarmref3_Range.calls kj13 x13_13 x16_13 x14_13 x15_13 t151 t152 t153 _ A26.out).mono ?_); rintro e w33 ⟨rfl, hb⟩; refine ⟨_, rfl, ?_⟩; have n0_ := Aside0.mk (IsS41.below (by repeat (first | (with_reducible first | exact HI132.out | apply IsS41.alloc | apply IsS41.drewN | apply IsS41.drew | apply IsS41.set_1) | exact HI132.out)) hb); have n1_ := Aside0.mk (below_step (by repeat (first | (with_reducible first | exact HB.out | apply below_alloc | apply pw_below_drewN | apply below_drew1 | refine below_set ?_ (IsS41.ge HI132.out)) | exact HB.out)) hb); clear HI132; clear HB; have HI132 := n0_; have HB := n1_; clear n0_ n1_; (try clear hb); (try clear hb2); (try clear hk); (try clear hi)))
                  go_roundg kj13
                  case measure => have := HK1.out; have := HJ13.out; omega
                  case rel => exact ⟨(wrap64 (x12_1 + 1)), (t146), (by first | rfl | (simp; done) | (simp [*]; done)), H', ⟨by have := HK1.out; have := HJ13.out; omega⟩, ⟨by repeat (first | (with_reducible first | exact HI132.out | apply IsS41.alloc | apply IsS41.drewN | apply IsS41.drew | apply IsS41.set_1) | exact HI132.out)⟩, ⟨by repeat (first | (with_reducible first | exact HB.out | apply below_alloc | apply pw_below_drewN | apply below_drew1 | refine below_set ?_ (IsS41.ge HI132.out)) | exact HB.out)⟩⟩
              · rw [if_neg c28] at H
                have c28b0 : (t149 == t152) = false := beq_eq_false_iff_ne.mpr c28
                have c28b1 : (t149 != t152) = true := bne_iff_ne.mpr c28
                obtain rfl := Option.some.inj H
                go_wp2_with (first | ((with_reducible refine gate_callee (f := 17) rfl ?_); refine goesL_ (some 56) rfl rfl Try.func17 (by kernel_rfl) rfl #[.int .i64 x13_13, .int .i64 x16_13, .int .i64 x14_13, .int .i64 x15_13] rfl (by (try simp only [List.map_toArray, List.map_cons, List.map_nil]); first | done | rfl | (simp only [List.length_drop, List.length_take]; rfl)) ?_; (with_reducible refine (border_Range.calls kj13 x13_13 x16_13 x14_13 x15_13 t148 t149 t150 _ A25.out).mono ?_); rintro e w34 ⟨rfl, hb⟩; refine ⟨_, rfl, ?_⟩; have n0_ := Aside0.mk (IsS41.below (by repeat (first | (with_reducible first | exact HI132.out | apply IsS41.alloc | apply IsS41.drewN | apply IsS41.drew | apply IsS41.set_1) | exact HI132.out)) hb); have n1_ := Aside0.mk (below_step (by repeat (first | (with_reducible first | exact HB.out | apply below_alloc | apply pw_below_drewN | apply below_drew1 | refine below_set ?_ (IsS41.ge HI132.out)) | exact HB.out)) hb); clear HI132; clear HB; have HI132 := n0_; have HB := n1_; clear n0_ n1_; (try clear hb); (try clear hb2); (try clear hk); (try clear hi)) | ((with_reducible refine gate_callee (f := 18) rfl ?_); refine goesL_ (some 65) rfl rfl Try.func18 (by kernel_rfl) rfl #[.int .i64 x13_13, .int .i64 x16_13, .int .i64 x14_13, .int .i64 x15_13] rfl (by (try simp only [List.map_toArray, List.map_cons, List.map_nil]); first | done | rfl | (simp only [List.length_drop, List.length_take]; rfl)) ?_; (with_reducible refine (tilefarmref3_Range.calls kj13 x13_13 x16_13 x14_13 x15_13 t151 t152 t153 _ A26.out).mono ?_); rintro e w35 ⟨rfl, hb⟩; refine ⟨_, rfl, ?_⟩; have n0_ := Aside0.mk (IsS41.below (by repeat (first | (with_reducible first | exact HI132.out | apply IsS41.alloc | apply IsS41.drewN | apply IsS41.drew | apply IsS41.set_1) | exact HI132.out)) hb); have n1_ := Aside0.mk (below_step (by repeat (first | (with_reducible first | exact HB.out | apply below_alloc | apply pw_below_drewN | apply below_drew1 | refine below_set ?_ (IsS41.ge HI132.out)) | exact HB.out)) hb); clear HI132; clear HB; have HI132 := n0_; have HB := n1_; clear n0_ n1_; (try clear hb); (try clear hb2); (try clear hk); (try clear hi)))
                go_ret
                exact ⟨by first | rfl | (simp [errW_none, errW_some] <;> rfl) | (simp [*, errW_none, errW_some] <;> rfl), by repeat (first | (with_reducible first | exact HB.out | apply below_alloc | apply pw_below_drewN | apply below_drew1 | refine below_set ?_ (IsS41.ge HI132.out)) | exact HB.out)⟩
            · rw [if_neg c27] at H
              have c27b0 : (t148 == t151) = false := beq_eq_false_iff_ne.mpr c27
              have c27b1 : (t148 != t151) = true := bne_iff_ne.mpr c27
              obtain rfl := Option.some.inj H
              go_wp2_with (first | ((with_reducible refine gate_callee (f := 17) rfl ?_); refine goesL_ (some 56) rfl rfl Try.func17 (by kernel_rfl) rfl #[.int .i64 x13_13, .int .i64 x16_13, .int .i64 x14_13, .int .i64 x15_13] rfl (by (try simp only [List.map_toArray, List.map_cons, List.map_nil]); first | done | rfl | (simp only [List.length_drop, List.length_take]; rfl)) ?_; (with_reducible refine (border_Range.calls kj13 x13_13 x16_13 x14_13 x15_13 t148 t149 t150 _ A25.out).mono ?_); rintro e w36 ⟨rfl, hb⟩; refine ⟨_, rfl, ?_⟩; have n0_ := Aside0.mk (IsS41.below (by repeat (first | (with_reducible first | exact HI132.out | apply IsS41.alloc | apply IsS41.drewN | apply IsS41.drew | apply IsS41.set_1) | exact HI132.out)) hb); have n1_ := Aside0.mk (below_step (by repeat (first | (with_reducible first | exact HB.out | apply below_alloc | apply pw_below_drewN | apply below_drew1 | refine below_set ?_ (IsS41.ge HI132.out)) | exact HB.out)) hb); clear HI132; clear HB; have HI132 := n0_; have HB := n1_; clear n0_ n1_; (try clear hb); (try clear hb2); (try clear hk); (try clear hi)) | ((with_reducible refine gate_callee (f := 18) rfl ?_); refine goesL_ (some 65) rfl rfl Try.func18 (by kernel_rfl) rfl #[.int .i64 x13_13, .int .i64 x16_13, .int .i64 x14_13, .int .i64 x15_13] rfl (by (try simp only [List.map_toArray, List.map_cons, List.map_nil]); first | done | rfl | (simp only [List.length_drop, List.length_take]; rfl)) ?_; (with_reducible refine (tilefarmref3_Range.calls kj13 x13_13 x16_13 x14_13 x15_13 t151 t152 t153 _ A26.out).mono ?_); rintro e w37 ⟨rfl, hb⟩; refine ⟨_, rfl, ?_⟩; have n0_ := Aside0.mk (IsS41.below (by repeat (first | (with_reducible first | exact HI132.out | apply IsS41.alloc | apply IsS41.drewN | apply IsS41.drew | apply IsS41.set_1) | exact HI132.out)) hb); have n1_ := Aside0.mk (below_step (by repeat (first | (with_reducible first | exact HB.out | apply below_alloc | apply pw_below_drewN | apply below_drew1 | refine below_set ?_ (IsS41.ge HI132.out)) | exact HB.out)) hb); clear HI132; clear HB; have HI132 := n0_; have HB := n1_; clear n0_ n1_; (try clear hb); (try clear hb2); (try clear hk); (try clear hi)))
              go_ret
              exact ⟨by first | rfl | (simp [errW_none, errW_some] <;> rfl) | (simp [*, errW_none, errW_some] <;> rfl), by repeat (first | (with_reducible first | exact HB.out | apply below_alloc | apply pw_below_drewN | apply below_drew1 | refine below_set ?_ (IsS41.ge HI132.out)) | exact HB.out)⟩
      · rw [if_neg c8] at H
        have c8b0 : decide (x12_1 < 6) = false := decide_eq_false c8
        clear c8
        replace H := Option.bind_eq_some_iff.mp H
        obtain ⟨t133, A380, H⟩ := H
        replace H : (some t133) = some r := H
        have A38 := Aside0.mk A380
        clear A380
        obtain rfl := Option.some.inj H
        go_wp2_with (first | ((with_reducible refine gate_callee (f := 10) rfl ?_); refine goesL_ (some 82) rfl rfl Try.func10 (by kernel_rfl) rfl #[] rfl (by (try simp only [List.map_toArray, List.map_cons, List.map_nil]); first | done | rfl | (simp only [List.length_drop, List.length_take]; rfl)) ?_; (with_reducible refine (tilefarmlaw3_sane.calls k1  t133 _ A38.out).mono ?_); rintro e w39 ⟨rfl, hb⟩; refine ⟨_, rfl, ?_⟩; have n0_ := Aside0.mk (IsS41.below (by repeat (first | (with_reducible first | exact HI132.out | apply IsS41.alloc | apply IsS41.drewN | apply IsS41.drew | apply IsS41.set_1) | exact HI132.out)) hb); have n1_ := Aside0.mk (below_step (by repeat (first | (with_reducible first | exact HB.out | apply below_alloc | apply pw_below_drewN | apply below_drew1 | refine below_set ?_ (IsS41.ge HI132.out)) | exact HB.out)) hb); clear HI132; clear HB; have HI132 := n0_; have HB := n1_; clear n0_ n1_; (try clear hb); (try clear hb2); (try clear hk); (try clear hi)))
        go_ret
        exact ⟨by first | rfl | (simp [errW_none, errW_some] <;> rfl) | (simp [*, errW_none, errW_some] <;> rfl), by repeat (first | (with_reducible first | exact HB.out | apply below_alloc | apply pw_below_drewN | apply below_drew1 | refine below_set ?_ (IsS41.ge HI132.out)) | exact HB.out)⟩

/-- THE ONE PURE STATEMENT of tilefarmlaw3_BorderRange: yours. -/
def tilefarmlaw3_BorderRange.Pure : Prop := ∀ (l0 : List Int) (a1 : Int) (a2 : Int) (a3 : Int) (a4 : Int), l0.length ≤ maxLen → l0.length * 8 ≤ 140737488351232 → (∀ x ∈ l0, (Lit.int .i64 x).wf = true) → (Lit.int .i64 a1).wf = true → (Lit.int .i64 a2).wf = true → (Lit.int .i64 a3).wf = true → (Lit.int .i64 a4).wf = true → ∃ k, tilefarmlaw3_BorderRange.f k l0 a1 a2 a3 a4 = some true
theorem tilefarmlaw3_BorderRange.walk (P : tilefarmlaw3_BorderRange.Pure) (a0 : Option Addr) (len0 cap0 : Nat) (z0 : List Int) (a1 : Int) (a2 : Int) (a3 : Int) (a4 : Int) (w : World) (w0 : (a0 = none ∧ len0 = 0 ∧ cap0 = 0 ∧ z0 = []) ∨ ∃ x, a0 = some x ∧ len0 ≤ cap0 ∧ cap0 ≤ maxLen ∧ z0.length = cap0 ∧ (∀ i, i < z0.length → w.cell? (x.add i) = some (.int .i64 (z0.getD i 0))) ∧ ∀ n ∈ z0, (Lit.int .i64 n).wf = true) (y0 : len0 * 8 ≤ 140737488351232) (w1 : (Lit.int .i64 a1).wf = true) (w2 : (Lit.int .i64 a2).wf = true) (w3 : (Lit.int .i64 a3).wf = true) (w4 : (Lit.int .i64 a4).wf = true) :
    Calls Try.prog 5 #[.slice a0 len0 cap0, .int .i64 a1, .int .i64 a2, .int .i64 a3, .int .i64 a4] w fun e w' => e = .returned (.bool true) ∧ Below w.heap.size w w' := by
  obtain ⟨l0, rfl, hr0, hm0, hw0, hc0⟩ := ReadsInt.ofRowC w0
  obtain ⟨k, h⟩ := P l0 a1 a2 a3 a4 hm0 y0 hw0 w1 w2 w3 w4
  refine (tilefarmlaw3_BorderRange.calls k _ _ l0 a1 a2 a3 a4 true w (Kd.C_of_reads (d := (0 : Int)) (h1 := fun _ => rfl) hr0) hc0 h).mono ?_
  rintro e w' ⟨rfl, hd⟩
  exact ⟨rfl, hd⟩

end Go.Proofs.Ytagdbpbajkojoaa.PBorderRange
