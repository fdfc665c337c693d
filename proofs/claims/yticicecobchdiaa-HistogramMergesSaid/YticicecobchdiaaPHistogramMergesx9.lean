-- Written by a program of the session (wip/tools/myprint.py) over the kit's printer; checked by Lean.
import Derived.Test.YticicecobchdiaaPHistogramMergesx0
import Derived.Test.YticicecobchdiaaPHistogramMergesx2
import Derived.Test.YticicecobchdiaaPHistogramMergesx6
import Derived.Test.YticicecobchdiaaPHistogramMergesx7
import Derived.Test.YticicecobchdiaaPHistogramMergesx8
namespace Go.Proofs.Yticicecobchdiaa.PHistogramMerges
open Go.RowKit Go.Proofs.YticicecobchdiaaW.PrintWords Go.Proofs.YticicecobchdiaaW.PrintLast Go.Proofs.YticicecobchdiaaW.PrintMore
attribute [local go_sem] max2_int min2_int max_two min_two max_three min_three max_four min_four   -- for this text's walks alone
set_option linter.unusedVariables false
set_option linter.unusedSimpArgs false

/-! ### tilefarmlaw12_HistogramMerges: function 5 -/
mutual
def tilefarmlaw12_HistogramMerges.l0 : Nat → List (List Int) → Int → List Int → Int → Option (Bool)
  | 0, _, _, _, _ => none
  | k + 1, x1, x6, x224000, x224001 => if x6 < 4 then ((tilefarmgen_Tape_Pick.f x224000 x224001 (([3, 1, 0] : List Int))).bind fun bt227 => ((tilefarmgen_Tape_Next.f x224000 bt227.2 5).bind fun bt229 => (tilefarmlaw12_HistogramMerges.l1 k x1 x6 ([] : List (List Int)) bt227.1 bt229.1 x224000 bt229.2))) else ((tilefarmlaw12_sane.f k).bind fun t275 => (some t275))
def tilefarmlaw12_HistogramMerges.l1 : Nat → List (List Int) → Int → List (List Int) → Int → Int → List Int → Int → Option (Bool)
  | 0, _, _, _, _, _, _, _ => none
  | k + 1, x1, x6, x7, x8, x9, x224000, x224001 => if x9 > 0 then (tilefarmlaw12_HistogramMerges.l2 k x1 x6 x7 x8 x9 ([] : List Int) 0 x224000 x224001) else (if x6 = 3 then (if (x1.length : Int) ≤ 500 then ((histogram_Merge.f k x1).bind fun bt248 => ((tilefarmref12_Merge.f k x1).bind fun bt252 => ((tilefarmref4_Same.f k bt248.1 bt252.1).bind fun t256 => (if t256 = true then (if bt248.2 = bt252.2 then (tilefarmlaw12_HistogramMerges.l0 k x1 (wrap64 (x6 + 1)) x224000 x224001) else (some false)) else (some false))))) else ((histogram_Merge.f k x7).bind fun bt257 => ((tilefarmref12_Merge.f k x7).bind fun bt261 => ((tilefarmref4_Same.f k bt257.1 bt261.1).bind fun t265 => (if t265 = true then (if bt257.2 = bt261.2 then (tilefarmlaw12_HistogramMerges.l0 k x1 (wrap64 (x6 + 1)) x224000 x224001) else (some false)) else (some false)))))) else ((histogram_Merge.f k x7).bind fun bt266 => ((tilefarmref12_Merge.f k x7).bind fun bt270 => ((tilefarmref4_Same.f k bt266.1 bt270.1).bind fun t274 => (if t274 = true then (if bt266.2 = bt270.2 then (tilefarmlaw12_HistogramMerges.l0 k x1 (wrap64 (x6 + 1)) x224000 x224001) else (some false)) else (some false))))))
def tilefarmlaw12_HistogramMerges.l2 : Nat → List (List Int) → Int → List (List Int) → Int → Int → List Int → Int → List Int → Int → Option (Bool)
  | 0, _, _, _, _, _, _, _, _, _ => none
  | k + 1, x1, x6, x7, x8, x9, x10, x11, x224000, x224001 => (tilefarmgen_Tape_Next.f x224000 x224001 12).bind fun bt231 => (if x11 < (wrap64 (x8 + (wrap64 (Int.tdiv bt231.1 11)))) then ((tilefarmgen_Tape_Next.f x224000 bt231.2 9).bind fun bt233 => ((tilefarmgen_Tape_Next.f x224000 bt233.2 40).bind fun bt235 => ((tilefarmgen_Tape_Pick.f x224000 bt235.2 (([bt233.1, 4096, 0, 2000, wrap64 ((wrap64 (Int.tdiv bt235.1 39)) * (-1))] : List Int))).bind fun bt240 => (if x10.length < 17592186044416 then (tilefarmlaw12_HistogramMerges.l2 k x1 x6 x7 x8 x9 (x10 ++ [bt240.1]) (wrap64 (x11 + 1)) x224000 bt240.2) else (none))))) else (if x7.length < 5864062014805 then (tilefarmlaw12_HistogramMerges.l1 k x1 x6 (x7 ++ [x10]) x8 (wrap64 (x9 - 1)) x224000 bt231.2) else (none)))
end
def tilefarmlaw12_HistogramMerges.f (k : Nat) (l0 : List Int) (l1 : List (List Int)) : Option (Bool) := (tilefarmgen_New.f l0).bind fun bt221 => (tilefarmlaw12_HistogramMerges.l0 k l1 0 bt221.1 bt221.2)
theorem tilefarmlaw12_HistogramMerges.mono_l : ∀ k, (∀ y0 y1 y2 y3, LeO (tilefarmlaw12_HistogramMerges.l0 k y0 y1 y2 y3) (tilefarmlaw12_HistogramMerges.l0 (k + 1) y0 y1 y2 y3)) ∧ (∀ y0 y1 y2 y3 y4 y5 y6, LeO (tilefarmlaw12_HistogramMerges.l1 k y0 y1 y2 y3 y4 y5 y6) (tilefarmlaw12_HistogramMerges.l1 (k + 1) y0 y1 y2 y3 y4 y5 y6)) ∧ (∀ y0 y1 y2 y3 y4 y5 y6 y7 y8, LeO (tilefarmlaw12_HistogramMerges.l2 k y0 y1 y2 y3 y4 y5 y6 y7 y8) (tilefarmlaw12_HistogramMerges.l2 (k + 1) y0 y1 y2 y3 y4 y5 y6 y7 y8))
  | 0 => ⟨fun _ _ _ _ r h => by simp [tilefarmlaw12_HistogramMerges.l0] at h, fun _ _ _ _ _ _ _ r h => by simp [tilefarmlaw12_HistogramMerges.l1] at h, fun _ _ _ _ _ _ _ _ _ r h => by simp [tilefarmlaw12_HistogramMerges.l2] at h⟩
  | k + 1 => by
    obtain ⟨ih0, ih1, ih2⟩ := tilefarmlaw12_HistogramMerges.mono_l k
    refine ⟨?_, ?_, ?_⟩
    · intro y0 y1 y2 y3
      unfold tilefarmlaw12_HistogramMerges.l0
      repeat' first
      | (with_reducible exact ih0 _ _ _ _)
      | (with_reducible exact ih1 _ _ _ _ _ _ _)
      | (with_reducible exact ih2 _ _ _ _ _ _ _ _ _)
      | (with_reducible exact histogram_Merge.mono _ _)
      | (with_reducible exact tilefarmlaw12_sane.mono _)
      | (with_reducible exact tilefarmref12_Merge.mono _ _)
      | (with_reducible exact tilefarmref4_Same.mono _ _ _)
      | (with_reducible exact LeO.refl _)
      | (with_reducible exact LeO.none _)
      | (with_reducible refine LeO.ite ?_ ?_)
      | (with_reducible refine LeO.bind ?_ (fun _ => ?_))
      | exact ih0 _ _ _ _
      | exact ih1 _ _ _ _ _ _ _
      | exact ih2 _ _ _ _ _ _ _ _ _
      | exact histogram_Merge.mono _ _
      | exact tilefarmlaw12_sane.mono _
      | exact tilefarmref12_Merge.mono _ _
      | exact tilefarmref4_Same.mono _ _ _
      | exact LeO.none _
      | refine LeO.ite ?_ ?_
      | refine LeO.bind ?_ (fun _ => ?_)
    · intro y0 y1 y2 y3 y4 y5 y6
      unfold tilefarmlaw12_HistogramMerges.l1
      repeat' first
      | (with_reducible exact ih0 _ _ _ _)
      | (with_reducible exact ih1 _ _ _ _ _ _ _)
      | (with_reducible exact ih2 _ _ _ _ _ _ _ _ _)
      | (with_reducible exact histogram_Merge.mono _ _)
      | (with_reducible exact tilefarmlaw12_sane.mono _)
      | (with_reducible exact tilefarmref12_Merge.mono _ _)
      | (with_reducible exact tilefarmref4_Same.mono _ _ _)
      | (with_reducible exact LeO.refl _)
      | (with_reducible exact LeO.none _)
      | (with_reducible refine LeO.ite ?_ ?_)
      | (with_reducible refine LeO.bind ?_ (fun _ => ?_))
      | exact ih0 _ _ _ _
      | exact ih1 _ _ _ _ _ _ _
      | exact ih2 _ _ _ _ _ _ _ _ _
      | exact histogram_Merge.mono _ _
      | exact tilefarmlaw12_sane.mono _
      | exact tilefarmref12_Merge.mono _ _
      | exact tilefarmref4_Same.mono _ _ _
      | exact LeO.none _
      | refine LeO.ite ?_ ?_
      | refine LeO.bind ?_ (fun _ => ?_)
    · intro y0 y1 y2 y3 y4 y5 y6 y7 y8
      unfold tilefarmlaw12_HistogramMerges.l2
      repeat' first
      | (with_reducible exact ih0 _ _ _ _)
      | (with_reducible exact ih1 _ _ _ _ _ _ _)
      | (with_reducible exact ih2 _ _ _ _ _ _ _ _ _)
      | (with_reducible exact histogram_Merge.mono _ _)
      | (with_reducible exact tilefarmlaw12_sane.mono _)
      | (with_reducible exact tilefarmref12_Merge.mono _ _)
      | (with_reducible exact tilefarmref4_Same.mono _ _ _)
      | (with_reducible exact LeO.refl _)
      | (with_reducible exact LeO.none _)
      | (with_reducible refine LeO.ite ?_ ?_)
      | (with_reducible refine LeO.bind ?_ (fun _ => ?_))
      | exact ih0 _ _ _ _
      | exact ih1 _ _ _ _ _ _ _
      | exact ih2 _ _ _ _ _ _ _ _ _
      | exact histogram_Merge.mono _ _
      | exact tilefarmlaw12_sane.mono _
      | exact tilefarmref12_Merge.mono _ _
      | exact tilefarmref4_Same.mono _ _ _
      | exact LeO.none _
      | refine LeO.ite ?_ ?_
      | refine LeO.bind ?_ (fun _ => ?_)
theorem tilefarmlaw12_HistogramMerges.mono : ∀ a0 a1 k, LeO (tilefarmlaw12_HistogramMerges.f k a0 a1) (tilefarmlaw12_HistogramMerges.f (k + 1) a0 a1) := by
  intro a0 a1 k
  obtain ⟨ih0, ih1, ih2⟩ := tilefarmlaw12_HistogramMerges.mono_l k
  unfold tilefarmlaw12_HistogramMerges.f
  repeat' first
      | (with_reducible exact ih0 _ _ _ _)
      | (with_reducible exact ih1 _ _ _ _ _ _ _)
      | (with_reducible exact ih2 _ _ _ _ _ _ _ _ _)
      | (with_reducible exact histogram_Merge.mono _ _)
      | (with_reducible exact tilefarmlaw12_sane.mono _)
      | (with_reducible exact tilefarmref12_Merge.mono _ _)
      | (with_reducible exact tilefarmref4_Same.mono _ _ _)
      | (with_reducible exact LeO.refl _)
      | (with_reducible exact LeO.none _)
      | (with_reducible refine LeO.ite ?_ ?_)
      | (with_reducible refine LeO.bind ?_ (fun _ => ?_))
      | exact ih0 _ _ _ _
      | exact ih1 _ _ _ _ _ _ _
      | exact ih2 _ _ _ _ _ _ _ _ _
      | exact histogram_Merge.mono _ _
      | exact tilefarmlaw12_sane.mono _
      | exact tilefarmref12_Merge.mono _ _
      | exact tilefarmref4_Same.mono _ _ _
      | exact LeO.none _
      | refine LeO.ite ?_ ?_
      | refine LeO.bind ?_ (fun _ => ?_)
set_option maxHeartbeats 8000000 in
set_option maxRecDepth 100000 in
theorem tilefarmlaw12_HistogramMerges.calls (k : Nat) (A0 : Option Addr) (c0 : Nat) (l0 : List Int) (A1 : Option Addr) (c1 : Nat) (l1 : List (List Int)) (r : Bool) (w : World) (hr0 : Kd.C (Kd.int .i64) w A0 l0.length l0) (hc0 : l0.length ≤ c0) (hr1 : Kd.C (Kd.slice 3 (Kd.int .i64)) w A1 l1.length l1) (hc1 : l1.length ≤ c1) (h : tilefarmlaw12_HistogramMerges.f k l0 l1 = some r) (hT : r = true := by first | rfl | assumption | exact HT.out) :
    Calls Try.prog 5 #[.slice A0 l0.length c0, .slice A1 l1.length c1] w fun e w' => e = .returned (.bool r) ∧ Below w.heap.size w w' := by
  have HT := Aside0.mk hT
  clear hT
  have HR0 := Aside0.mk hr0
  have HC0 := Aside0.mk hc0
  clear hr0 hc0
  have HR1 := Aside0.mk hr1
  have HC1 := Aside0.mk hc1
  clear hr1 hc1
  have HB := Aside0.mk (Below.refl w.heap.size w)
  have H : ((tilefarmgen_New.f l0).bind fun bt221 => (tilefarmlaw12_HistogramMerges.l0 k l1 0 bt221.1 bt221.2)) = some r := h
  clear h
  replace H := Option.bind_eq_some_iff.mp H
  obtain ⟨⟨t221, t222⟩, A30, H⟩ := H
  replace H : (tilefarmlaw12_HistogramMerges.l0 k l1 0 t221 t222) = some r := H
  have A3 := Aside0.mk A30
  clear A30
  have H' := Aside0.mk H
  clear H
  go_enter Try.func5, Try.ntmps5
  go_wp2_with (first | ((with_reducible refine gate_callee (f := 8) rfl ?_); refine goesL_ (some 17) rfl rfl Try.func8 (by kernel_rfl) rfl #[.slice A0 l0.length c0] rfl (by (try simp only [List.map_toArray, List.map_cons, List.map_nil]); first | done | rfl | (simp only [List.length_drop, List.length_take]; rfl)) ?_; (with_reducible refine (tilefarmgen_New.calls _ _ l0 t221 t222 w _ ?side1 ?side2 ?side3 A3.out).mono ?_); (case side1 => repeat (first | (with_reducible first | exact HB.out | apply below_alloc | apply pw_below_drewN | apply below_drew1) | exact HB.out)); (case side2 => exact HR0.out); (case side3 => exact HC0.out); rintro e w4 ⟨g223, rfl, hi, hb, hb2⟩; refine ⟨_, rfl, ?_⟩; have n0_ := Aside0.mk (hb); have n1_ := Aside0.mk (hi); clear HB; have HB := n0_; have HI223 := n1_; clear n0_ n1_; (try clear hb); (try clear hb2); (try clear hk); (try clear hi)))
  go_loopg [6] k (fun kq v6 w' => ∃ (x6_1 : Int) (x224001_1 : Int), v6 = .int .i64 x6_1 ∧ Aside0 (tilefarmlaw12_HistogramMerges.l0 kq l1 x6_1 t221 x224001_1 = some r) ∧ Aside0 (kq ≤ k) ∧ Aside0 (IsS55 w w' g223 t221 x224001_1) ∧ Aside0 (Below w.heap.size w w'))
  case atStart => exact ⟨(0), (t222), (by first | rfl | (simp; done) | (simp [*]; done)), H', ⟨Nat.le_refl _⟩, ⟨by repeat (first | (with_reducible first | exact HI223.out | apply IsS55.alloc | apply IsS55.drewN | apply IsS55.drew | apply IsS55.set_1) | exact HI223.out)⟩, ⟨by repeat (first | (with_reducible first | exact HB.out | apply below_alloc | apply pw_below_drewN | apply below_drew1 | refine below_set ?_ (IsS55.ge HI223.out)) | exact HB.out)⟩⟩
  case round =>
    clear H'
    try clear c1
    try clear p2
    obtain ⟨x6_1, x224001_1, rfl, HA, HK1, HI223, HB⟩ := hrel
    cases gk with
    | zero => exact absurd HA.out (by simp [tilefarmlaw12_HistogramMerges.l0])
    | succ k1 =>
      have H := HA.out
      clear HA
      simp only [tilefarmlaw12_HistogramMerges.l0] at H
      by_cases c5 : x6_1 < 4
      · rw [if_pos c5] at H
        have c5b0 : decide (x6_1 < 4) = true := decide_eq_true c5
        clear c5
        obtain ⟨y224, hy224⟩ : ∃ y_ : List Int, y_ = (([3, 1, 0] : List Int)) := ⟨_, rfl⟩
        replace H : ((tilefarmgen_Tape_Pick.f t221 x224001_1 y224).bind fun bt227 => ((tilefarmgen_Tape_Next.f t221 bt227.2 5).bind fun bt229 => (tilefarmlaw12_HistogramMerges.l1 k1 l1 x6_1 ([] : List (List Int)) bt227.1 bt229.1 t221 bt229.2))) = some r := by first | (rw [hy224]; with_reducible exact H) | (have H2_ := (Option.bind_some _ _).symm.trans H; rw [hy224]; with_reducible exact H2_) | (have H2_ := (Option.bind_some _ _).symm.trans H; with_reducible exact H2_) | with_reducible exact H | (rw [hy224]; exact H) | exact H
        have Ny224 := Aside0.mk hy224
        clear hy224
        replace H := Option.bind_eq_some_iff.mp H
        obtain ⟨⟨t227, t228⟩, A60, H⟩ := H
        replace H : ((tilefarmgen_Tape_Next.f t221 t228 5).bind fun bt229 => (tilefarmlaw12_HistogramMerges.l1 k1 l1 x6_1 ([] : List (List Int)) t227 bt229.1 t221 bt229.2)) = some r := H
        have A6 := Aside0.mk A60
        clear A60
        replace H := Option.bind_eq_some_iff.mp H
        obtain ⟨⟨t229, t230⟩, A70, H⟩ := H
        replace H : (tilefarmlaw12_HistogramMerges.l1 k1 l1 x6_1 ([] : List (List Int)) t227 t229 t221 t230) = some r := H
        have A7 := Aside0.mk A70
        clear A70
        have H' := Aside0.mk H
        clear H
        go_wp2_with (first | ((with_reducible refine gate_dst (N := 23) rfl ?_); (try (refine gate_guard (by rfl) ?_; dsimp only)); refine Kd.R_lit (Kd.int .i64) _ 3 ?hg (N := 23) ?hd (xs := ([3, 1, 0] : List Int)) (inner := [.int .i64 3, .int .i64 1, .int .i64 0]) (ok := fun _ => True) (okp := fun _ => True) ?hr ?hp (fun _ hk => hk) trivial (Below.refl _ _) (Nat.le_refl _) (by simp) ?_; (case hd => rfl); (case hg => rfl); (case hr => first | (go_simp; done) | (go_simp; rfl)); (case hp => exact (Reps.one (show Kd.M (Kd.int .i64) _ _ _ 3 [.int .i64 3] from rfl) (Reps.one (show Kd.M (Kd.int .i64) _ _ _ 1 [.int .i64 1] from rfl) (Reps.one (show Kd.M (Kd.int .i64) _ _ _ 0 [.int .i64 0] from rfl) (Reps.none _ _))))); intro v225 w8 ho9 hb hg_ hnew_; clear hg_ hnew_; (first | rw [← Ny224.out] at ho9 | (simp only [Int.reduceToNat] at ho9; rw [← Ny224.out] at ho9)); have n0_ := Aside0.mk (Kd.R_lower ho9 (below_size (by repeat (first | (with_reducible first | exact HB.out | apply below_alloc | apply pw_below_drewN | apply below_drew1 | refine below_set ?_ (IsS55.ge HI223.out)) | exact HB.out)))); have n1_ := Aside0.mk (IsS55.below (by repeat (first | (with_reducible first | exact HI223.out | apply IsS55.alloc | apply IsS55.drewN | apply IsS55.drew | apply IsS55.set_1) | exact HI223.out)) hb); have n2_ := Aside0.mk (below_step (by repeat (first | (with_reducible first | exact HB.out | apply below_alloc | apply pw_below_drewN | apply below_drew1 | refine below_set ?_ (IsS55.ge HI223.out)) | exact HB.out)) hb); clear HI223; clear HB; have HO226 := n0_; have HI223 := n1_; have HB := n2_; clear n0_ n1_ n2_; clear hb ho9; obtain ⟨Ao10, co10, eo10⟩ := Kd.R_slice HO226.out; subst eo10) | ((with_reducible refine gate_callee (f := 18) rfl ?_); refine goesL_ (some 24) rfl rfl Try.func18 (by kernel_rfl) rfl #[.pointer (some ⟨g223, 0, none⟩), .slice Ao10 y224.length co10] rfl (by (try simp only [List.map_toArray, List.map_cons, List.map_nil]); first | done | rfl | (simp only [List.length_drop, List.length_take]; rfl)) ?_; (with_reducible refine (tilefarmgen_Tape_Pick.calls g223 t221 x224001_1 _ _ y224 t227 t228 w _ ?side1 ?side2 ?side3 ?side4 ?side5 A6.out).mono ?_); (case side1 => repeat (first | (with_reducible first | exact HI223.out | apply IsS55.alloc | apply IsS55.drewN | apply IsS55.drew | apply IsS55.set_1) | exact HI223.out)); (case side2 => repeat (first | (with_reducible first | exact HB.out | apply below_alloc | apply pw_below_drewN | apply below_drew1 | refine below_set ?_ (IsS55.ge HI223.out)) | exact HB.out)); (case side3 => repeat (first | exact (Kd.R_reads' HO226.out).2.2 | (with_reducible refine Kd.C_alloc ?_ _) | (with_reducible refine Kd.C_drewN ?_ _) | (with_reducible refine Kd.C_drew ?_))); (case side4 => exact (Kd.R_reads' HO226.out).2.1); (case side5 => exact far_slice (IsS55.own_ne HI223.out HO226.out (by decide))); rintro e w11 ⟨rfl, hi, hb, hk⟩; refine ⟨_, rfl, ?_⟩; have n0_ := Aside0.mk (Kd.R_mono (Kd.R_keep (IsS55.apart (show IsS55 w _ g223 t221 x224001_1 from by repeat (first | (with_reducible first | exact HI223.out | apply IsS55.alloc | apply IsS55.drewN | apply IsS55.drew | apply IsS55.set_1) | exact HI223.out)) (by (with_reducible repeat (first | apply Kd.R_alloc | apply Kd.R_drewN | apply Kd.R_drew)); exact HO226.out) (by decide)) hk (fun _ h => h.2)) (fun _ h => h.1)); have n1_ := Aside0.mk (hb); have n2_ := Aside0.mk (hi); clear HO226; clear HB; clear HI223; have HO226 := n0_; have HB := n1_; have HI223 := n2_; clear n0_ n1_ n2_; (try clear hb); (try clear hb2); (try clear hk); (try clear hi)) | ((with_reducible refine gate_callee (f := 10) rfl ?_); refine goesL_ (some 26) rfl rfl Try.func10 (by kernel_rfl) rfl #[.pointer (some ⟨g223, 0, none⟩), .int .i64 5] rfl (by (try simp only [List.map_toArray, List.map_cons, List.map_nil]); first | done | rfl | (simp only [List.length_drop, List.length_take]; rfl)) ?_; (with_reducible refine (tilefarmgen_Tape_Next.calls g223 t221 t228 5 t229 t230 w _ ?side1 ?side2 A7.out).mono ?_); (case side1 => repeat (first | (with_reducible first | exact HI223.out | apply IsS55.alloc | apply IsS55.drewN | apply IsS55.drew | apply IsS55.set_1) | exact HI223.out)); (case side2 => repeat (first | (with_reducible first | exact HB.out | apply below_alloc | apply pw_below_drewN | apply below_drew1 | refine below_set ?_ (IsS55.ge HI223.out)) | exact HB.out)); rintro e w12 ⟨rfl, hi, hb, hk⟩; refine ⟨_, rfl, ?_⟩; have n0_ := Aside0.mk (Kd.R_mono (Kd.R_keep (IsS55.apart (show IsS55 w _ g223 t221 t228 from by repeat (first | (with_reducible first | exact HI223.out | apply IsS55.alloc | apply IsS55.drewN | apply IsS55.drew | apply IsS55.set_1) | exact HI223.out)) (by (with_reducible repeat (first | apply Kd.R_alloc | apply Kd.R_drewN | apply Kd.R_drew)); exact HO226.out) (by decide)) hk (fun _ h => h.2)) (fun _ h => h.1)); have n1_ := Aside0.mk (hb); have n2_ := Aside0.mk (hi); clear HO226; clear HB; clear HI223; have HO226 := n0_; have HB := n1_; have HI223 := n2_; clear n0_ n1_ n2_; (try clear hb); (try clear hb2); (try clear hk); (try clear hi)))
        go_loopg [7, 9] k1 (fun kq v7 v9 w' => ∃ (x7_2 : List (List Int)) (x9_2 : Int) (x224001_2 : Int), v9 = .int .i64 x9_2 ∧ Aside0 (tilefarmlaw12_HistogramMerges.l1 kq l1 x6_1 x7_2 t227 x9_2 t221 x224001_2 = some r) ∧ Aside0 (kq ≤ k1) ∧ Aside0 (Kd.S (Kd.slice 3 (Kd.int .i64)) 22 w' w.heap.size (fun _ => True) v7 x7_2) ∧ Aside0 (IsS55 w w' g223 t221 x224001_2) ∧ Aside0 (Below w.heap.size w w'))
        case atStart => exact ⟨(([] : List (List Int))), (t229), (t230), (by first | rfl | (simp; done) | (simp [*]; done)), H', ⟨Nat.le_refl _⟩, ⟨by first | exact Kd.S_nil _ _ _ _ _ | exact Kd.N_nil _ _ _ _ _ | exact Kd.V_nil _ _ _ _ _ | exact Kd.Q_nil _ _ _ _ _ | exact Kd.R_nil _ _ _ _ _⟩, ⟨by repeat (first | (with_reducible first | exact HI223.out | apply IsS55.alloc | apply IsS55.drewN | apply IsS55.drew | apply IsS55.set_1) | exact HI223.out)⟩, ⟨by repeat (first | (with_reducible first | exact HB.out | apply below_alloc | apply pw_below_drewN | apply below_drew1 | refine below_set ?_ (IsS55.ge HI223.out)) | exact HB.out)⟩⟩
        case round =>
          clear H'
          try clear c1
          try clear p2
          try clear c5
          try clear c5b0
          try clear c8
          try clear c10
          try clear p2
          obtain ⟨x7_2, x9_2, x224001_2, rfl, HA, HK2, HO_7, HI223, HB⟩ := hrel
          cases gk with
          | zero => exact absurd HA.out (by simp [tilefarmlaw12_HistogramMerges.l1])
          | succ k2 =>
            have H := HA.out
            clear HA
            simp only [tilefarmlaw12_HistogramMerges.l1] at H
            by_cases c13 : x9_2 > 0
            · rw [if_pos c13] at H
              have c13b0 : decide (0 < x9_2) = true := decide_eq_true c13
              clear c13
              have H' := Aside0.mk H
              clear H
              go_wp2
              go_loopg [10, 11] k2 (fun kq v10 v11 w' => ∃ (x10_3 : List Int) (x11_3 : Int) (x224001_3 : Int), v11 = .int .i64 x11_3 ∧ Aside0 (tilefarmlaw12_HistogramMerges.l2 kq l1 x6_1 x7_2 t227 x9_2 x10_3 x11_3 t221 x224001_3 = some r) ∧ Aside0 (kq ≤ k2) ∧ Aside0 (Kd.S (Kd.slice 3 (Kd.int .i64)) 22 w' w.heap.size (fun k_ => some k_ ≠ (v10 : Value).ownBlock) u7 x7_2) ∧ Aside0 (Kd.R (Kd.int .i64) 3 w' w.heap.size (fun _ => True) v10 x10_3) ∧ Aside0 (IsS55 w w' g223 t221 x224001_3) ∧ Aside0 (Below w.heap.size w w'))
              case atStart => exact ⟨(([] : List Int)), (0), (x224001_2), (by first | rfl | (simp; done) | (simp [*]; done)), H', ⟨Nat.le_refl _⟩, ⟨by (with_reducible repeat (first | apply Kd.S_alloc | apply Kd.S_drewN | apply Kd.S_drew)); exact Kd.S_mono HO_7.out (fun _ hk => (by simp [Value.ownBlock]))⟩, ⟨by first | exact Kd.R_nil _ _ _ _ _ | exact Kd.N_nil _ _ _ _ _ | exact Kd.V_nil _ _ _ _ _ | exact Kd.Q_nil _ _ _ _ _ | exact Kd.S_nil _ _ _ _ _⟩, ⟨by repeat (first | (with_reducible first | exact HI223.out | apply IsS55.alloc | apply IsS55.drewN | apply IsS55.drew | apply IsS55.set_1) | exact HI223.out)⟩, ⟨by repeat (first | (with_reducible first | exact HB.out | apply below_alloc | apply pw_below_drewN | apply below_drew1 | refine below_set ?_ (IsS55.ge HI223.out)) | exact HB.out)⟩⟩
              case round =>
                clear H'
                try clear c1
                try clear p2
                try clear c5
                try clear c5b0
                try clear c8
                try clear c10
                try clear c13
                try clear c13b0
                try clear p2
                obtain ⟨x10_3, x11_3, x224001_3, rfl, HA, HK3, HO_7, HO_10, HI223, HB⟩ := hrel
                cases gk with
                | zero => exact absurd HA.out (by simp [tilefarmlaw12_HistogramMerges.l2])
                | succ k3 =>
                  have H := HA.out
                  clear HA
                  simp only [tilefarmlaw12_HistogramMerges.l2] at H
                  replace H := Option.bind_eq_some_iff.mp H
                  obtain ⟨⟨t231, t232⟩, A140, H⟩ := H
                  replace H : (if x11_3 < (wrap64 (t227 + (wrap64 (Int.tdiv t231 11)))) then ((tilefarmgen_Tape_Next.f t221 t232 9).bind fun bt233 => ((tilefarmgen_Tape_Next.f t221 bt233.2 40).bind fun bt235 => ((tilefarmgen_Tape_Pick.f t221 bt235.2 (([bt233.1, 4096, 0, 2000, wrap64 ((wrap64 (Int.tdiv bt235.1 39)) * (-1))] : List Int))).bind fun bt240 => (if x10_3.length < 17592186044416 then (tilefarmlaw12_HistogramMerges.l2 k3 l1 x6_1 x7_2 t227 x9_2 (x10_3 ++ [bt240.1]) (wrap64 (x11_3 + 1)) t221 bt240.2) else (none))))) else (if x7_2.length < 5864062014805 then (tilefarmlaw12_HistogramMerges.l1 k3 l1 x6_1 (x7_2 ++ [x10_3]) t227 (wrap64 (x9_2 - 1)) t221 t232) else (none))) = some r := H
                  have A14 := Aside0.mk A140
                  clear A140
                  by_cases c15 : x11_3 < (wrap64 (t227 + (wrap64 (Int.tdiv t231 11))))
                  · rw [if_pos c15] at H
                    have c15b0 : decide (x11_3 < (wrap64 (t227 + (wrap64 (Int.tdiv t231 11))))) = true := decide_eq_true c15
                    clear c15
                    replace H := Option.bind_eq_some_iff.mp H
                    obtain ⟨⟨t233, t234⟩, A160, H⟩ := H
                    replace H : ((tilefarmgen_Tape_Next.f t221 t234 40).bind fun bt235 => ((tilefarmgen_Tape_Pick.f t221 bt235.2 (([t233, 4096, 0, 2000, wrap64 ((wrap64 (Int.tdiv bt235.1 39)) * (-1))] : List Int))).bind fun bt240 => (if x10_3.length < 17592186044416 then (tilefarmlaw12_HistogramMerges.l2 k3 l1 x6_1 x7_2 t227 x9_2 (x10_3 ++ [bt240.1]) (wrap64 (x11_3 + 1)) t221 bt240.2) else (none)))) = some r := H
                    have A16 := Aside0.mk A160
                    clear A160
                    replace H := Option.bind_eq_some_iff.mp H
                    obtain ⟨⟨t235, t236⟩, A170, H⟩ := H
                    replace H : ((tilefarmgen_Tape_Pick.f t221 t236 (([t233, 4096, 0, 2000, wrap64 ((wrap64 (Int.tdiv t235 39)) * (-1))] : List Int))).bind fun bt240 => (if x10_3.length < 17592186044416 then (tilefarmlaw12_HistogramMerges.l2 k3 l1 x6_1 x7_2 t227 x9_2 (x10_3 ++ [bt240.1]) (wrap64 (x11_3 + 1)) t221 bt240.2) else (none))) = some r := H
                    have A17 := Aside0.mk A170
                    clear A170
                    obtain ⟨y237, hy237⟩ : ∃ y_ : List Int, y_ = (([t233, 4096, 0, 2000, wrap64 ((wrap64 (Int.tdiv t235 39)) * (-1))] : List Int)) := ⟨_, rfl⟩
                    replace H : ((tilefarmgen_Tape_Pick.f t221 t236 y237).bind fun bt240 => (if x10_3.length < 17592186044416 then (tilefarmlaw12_HistogramMerges.l2 k3 l1 x6_1 x7_2 t227 x9_2 (x10_3 ++ [bt240.1]) (wrap64 (x11_3 + 1)) t221 bt240.2) else (none))) = some r := by first | (rw [hy237]; with_reducible exact H) | (have H2_ := (Option.bind_some _ _).symm.trans H; rw [hy237]; with_reducible exact H2_) | (have H2_ := (Option.bind_some _ _).symm.trans H; with_reducible exact H2_) | with_reducible exact H | (rw [hy237]; exact H) | exact H
                    have Ny237 := Aside0.mk hy237
                    clear hy237
                    replace H := Option.bind_eq_some_iff.mp H
                    obtain ⟨⟨t240, t241⟩, A180, H⟩ := H
                    replace H : (if x10_3.length < 17592186044416 then (tilefarmlaw12_HistogramMerges.l2 k3 l1 x6_1 x7_2 t227 x9_2 (x10_3 ++ [t240]) (wrap64 (x11_3 + 1)) t221 t241) else (none)) = some r := H
                    have A18 := Aside0.mk A180
                    clear A180
                    by_cases c19 : x10_3.length < 17592186044416
                    · rw [if_pos c19] at H
                      have LMc19 := Aside0.mk c19
                      clear c19
                      obtain ⟨y242, hy242⟩ : ∃ y_ : List Int, y_ = (x10_3 ++ [t240]) := ⟨_, rfl⟩
                      replace H : (tilefarmlaw12_HistogramMerges.l2 k3 l1 x6_1 x7_2 t227 x9_2 y242 (wrap64 (x11_3 + 1)) t221 t241) = some r := by first | (rw [hy242]; with_reducible exact H) | (have H2_ := (Option.bind_some _ _).symm.trans H; rw [hy242]; with_reducible exact H2_) | (have H2_ := (Option.bind_some _ _).symm.trans H; with_reducible exact H2_) | with_reducible exact H | (rw [hy242]; exact H) | exact H
                      have Ny242 := Aside0.mk hy242
                      clear hy242
                      have H' := Aside0.mk H
                      clear H
                      go_wp2_with (first | ((with_reducible refine gate_callee (f := 10) rfl ?_); refine goesL_ (some 34) rfl rfl Try.func10 (by kernel_rfl) rfl #[.pointer (some ⟨g223, 0, none⟩), .int .i64 12] rfl (by (try simp only [List.map_toArray, List.map_cons, List.map_nil]); first | done | rfl | (simp only [List.length_drop, List.length_take]; rfl)) ?_; (with_reducible refine (tilefarmgen_Tape_Next.calls g223 t221 x224001_3 12 t231 t232 w _ ?side1 ?side2 A14.out).mono ?_); (case side1 => repeat (first | (with_reducible first | exact HI223.out | apply IsS55.alloc | apply IsS55.drewN | apply IsS55.drew | apply IsS55.set_1) | exact HI223.out)); (case side2 => repeat (first | (with_reducible first | exact HB.out | apply below_alloc | apply pw_below_drewN | apply below_drew1 | refine below_set ?_ (IsS55.ge HI223.out)) | exact HB.out)); rintro e w20 ⟨rfl, hi, hb, hk⟩; refine ⟨_, rfl, ?_⟩; have n0_ := Aside0.mk (Kd.S_mono (Kd.S_keep (IsS55.apartS (show IsS55 w _ g223 t221 x224001_3 from by repeat (first | (with_reducible first | exact HI223.out | apply IsS55.alloc | apply IsS55.drewN | apply IsS55.drew | apply IsS55.set_1) | exact HI223.out)) (by (with_reducible repeat (first | apply Kd.S_alloc | apply Kd.S_drewN | apply Kd.S_drew)); exact HO_7.out) (by decide)) hk (fun _ h => h.2)) (fun _ h => h.1)); have n1_ := Aside0.mk (Kd.R_mono (Kd.R_keep (IsS55.apart (show IsS55 w _ g223 t221 x224001_3 from by repeat (first | (with_reducible first | exact HI223.out | apply IsS55.alloc | apply IsS55.drewN | apply IsS55.drew | apply IsS55.set_1) | exact HI223.out)) (by (with_reducible repeat (first | apply Kd.R_alloc | apply Kd.R_drewN | apply Kd.R_drew)); exact HO_10.out) (by decide)) hk (fun _ h => h.2)) (fun _ h => h.1)); have n2_ := Aside0.mk (hb); have n3_ := Aside0.mk (hi); clear HO_7; clear HO_10; clear HB; clear HI223; have HO_7 := n0_; have HO_10 := n1_; have HB := n2_; have HI223 := n3_; clear n0_ n1_ n2_ n3_; (try clear hb); (try clear hb2); (try clear hk); (try clear hi)) | ((with_reducible refine gate_callee (f := 10) rfl ?_); refine goesL_ (some 43) rfl rfl Try.func10 (by kernel_rfl) rfl #[.pointer (some ⟨g223, 0, none⟩), .int .i64 9] rfl (by (try simp only [List.map_toArray, List.map_cons, List.map_nil]); first | done | rfl | (simp only [List.length_drop, List.length_take]; rfl)) ?_; (with_reducible refine (tilefarmgen_Tape_Next.calls g223 t221 t232 9 t233 t234 w _ ?side1 ?side2 A16.out).mono ?_); (case side1 => repeat (first | (with_reducible first | exact HI223.out | apply IsS55.alloc | apply IsS55.drewN | apply IsS55.drew | apply IsS55.set_1) | exact HI223.out)); (case side2 => repeat (first | (with_reducible first | exact HB.out | apply below_alloc | apply pw_below_drewN | apply below_drew1 | refine below_set ?_ (IsS55.ge HI223.out)) | exact HB.out)); rintro e w21 ⟨rfl, hi, hb, hk⟩; refine ⟨_, rfl, ?_⟩; have n0_ := Aside0.mk (Kd.S_mono (Kd.S_keep (IsS55.apartS (show IsS55 w _ g223 t221 t232 from by repeat (first | (with_reducible first | exact HI223.out | apply IsS55.alloc | apply IsS55.drewN | apply IsS55.drew | apply IsS55.set_1) | exact HI223.out)) (by (with_reducible repeat (first | apply Kd.S_alloc | apply Kd.S_drewN | apply Kd.S_drew)); exact HO_7.out) (by decide)) hk (fun _ h => h.2)) (fun _ h => h.1)); have n1_ := Aside0.mk (Kd.R_mono (Kd.R_keep (IsS55.apart (show IsS55 w _ g223 t221 t232 from by repeat (first | (with_reducible first | exact HI223.out | apply IsS55.alloc | apply IsS55.drewN | apply IsS55.drew | apply IsS55.set_1) | exact HI223.out)) (by (with_reducible repeat (first | apply Kd.R_alloc | apply Kd.R_drewN | apply Kd.R_drew)); exact HO_10.out) (by decide)) hk (fun _ h => h.2)) (fun _ h => h.1)); have n2_ := Aside0.mk (hb); have n3_ := Aside0.mk (hi); clear HO_7; clear HO_10; clear HB; clear HI223; have HO_7 := n0_; have HO_10 := n1_; have HB := n2_; have HI223 := n3_; clear n0_ n1_ n2_ n3_; (try clear hb); (try clear hb2); (try clear hk); (try clear hi)) | ((with_reducible refine gate_callee (f := 10) rfl ?_); refine goesL_ (some 45) rfl rfl Try.func10 (by kernel_rfl) rfl #[.pointer (some ⟨g223, 0, none⟩), .int .i64 40] rfl (by (try simp only [List.map_toArray, List.map_cons, List.map_nil]); first | done | rfl | (simp only [List.length_drop, List.length_take]; rfl)) ?_; (with_reducible refine (tilefarmgen_Tape_Next.calls g223 t221 t234 40 t235 t236 w _ ?side1 ?side2 A17.out).mono ?_); (case side1 => repeat (first | (with_reducible first | exact HI223.out | apply IsS55.alloc | apply IsS55.drewN | apply IsS55.drew | apply IsS55.set_1) | exact HI223.out)); (case side2 => repeat (first | (with_reducible first | exact HB.out | apply below_alloc | apply pw_below_drewN | apply below_drew1 | refine below_set ?_ (IsS55.ge HI223.out)) | exact HB.out)); rintro e w22 ⟨rfl, hi, hb, hk⟩; refine ⟨_, rfl, ?_⟩; have n0_ := Aside0.mk (Kd.S_mono (Kd.S_keep (IsS55.apartS (show IsS55 w _ g223 t221 t234 from by repeat (first | (with_reducible first | exact HI223.out | apply IsS55.alloc | apply IsS55.drewN | apply IsS55.drew | apply IsS55.set_1) | exact HI223.out)) (by (with_reducible repeat (first | apply Kd.S_alloc | apply Kd.S_drewN | apply Kd.S_drew)); exact HO_7.out) (by decide)) hk (fun _ h => h.2)) (fun _ h => h.1)); have n1_ := Aside0.mk (Kd.R_mono (Kd.R_keep (IsS55.apart (show IsS55 w _ g223 t221 t234 from by repeat (first | (with_reducible first | exact HI223.out | apply IsS55.alloc | apply IsS55.drewN | apply IsS55.drew | apply IsS55.set_1) | exact HI223.out)) (by (with_reducible repeat (first | apply Kd.R_alloc | apply Kd.R_drewN | apply Kd.R_drew)); exact HO_10.out) (by decide)) hk (fun _ h => h.2)) (fun _ h => h.1)); have n2_ := Aside0.mk (hb); have n3_ := Aside0.mk (hi); clear HO_7; clear HO_10; clear HB; clear HI223; have HO_7 := n0_; have HO_10 := n1_; have HB := n2_; have HI223 := n3_; clear n0_ n1_ n2_ n3_; (try clear hb); (try clear hb2); (try clear hk); (try clear hi)) | ((with_reducible refine gate_dst (N := 48) rfl ?_); (try (refine gate_guard (by rfl) ?_; dsimp only)); refine Kd.R_lit (Kd.int .i64) _ 3 ?hg (N := 48) ?hd (xs := ([t233, 4096, 0, 2000, wrap64 ((wrap64 (Int.tdiv t235 39)) * (-1))] : List Int)) (inner := [.int .i64 t233, .int .i64 4096, .int .i64 0, .int .i64 2000, .int .i64 (wrap64 ((wrap64 (Int.tdiv t235 39)) * (-1)))]) (ok := fun _ => True) (okp := fun _ => True) ?hr ?hp (fun _ hk => hk) trivial (Below.refl _ _) (Nat.le_refl _) (by simp) ?_; (case hd => rfl); (case hg => rfl); (case hr => first | (go_simp; done) | (go_simp; rfl)); (case hp => exact (Reps.one (show Kd.M (Kd.int .i64) _ _ _ t233 [.int .i64 t233] from rfl) (Reps.one (show Kd.M (Kd.int .i64) _ _ _ 4096 [.int .i64 4096] from rfl) (Reps.one (show Kd.M (Kd.int .i64) _ _ _ 0 [.int .i64 0] from rfl) (Reps.one (show Kd.M (Kd.int .i64) _ _ _ 2000 [.int .i64 2000] from rfl) (Reps.one (show Kd.M (Kd.int .i64) _ _ _ (wrap64 ((wrap64 (Int.tdiv t235 39)) * (-1))) [.int .i64 (wrap64 ((wrap64 (Int.tdiv t235 39)) * (-1)))] from rfl) (Reps.none _ _))))))); intro v238 w23 ho24 hb hg_ hnew_; clear hg_ hnew_; (first | rw [← Ny237.out] at ho24 | (simp only [Int.reduceToNat] at ho24; rw [← Ny237.out] at ho24)); have n0_ := Aside0.mk (Kd.S_elder' (by (with_reducible repeat (first | apply Kd.S_alloc | apply Kd.S_drewN | apply Kd.S_drew)); exact HO_7.out) (Kd.R_base ho24) hb); have n1_ := Aside0.mk (Kd.R_elder' (by (with_reducible repeat (first | apply Kd.R_alloc | apply Kd.R_drewN | apply Kd.R_drew)); exact HO_10.out) (Kd.R_base ho24) hb); have n2_ := Aside0.mk (Kd.R_lower (Kd.R_new' ho24 (Kd.R_lt (by (with_reducible repeat (first | apply Kd.R_alloc | apply Kd.R_drewN | apply Kd.R_drew)); exact HO_10.out))) (below_size (by repeat (first | (with_reducible first | exact HB.out | apply below_alloc | apply pw_below_drewN | apply below_drew1 | refine below_set ?_ (IsS55.ge HI223.out)) | exact HB.out)))); have n3_ := Aside0.mk (IsS55.below (by repeat (first | (with_reducible first | exact HI223.out | apply IsS55.alloc | apply IsS55.drewN | apply IsS55.drew | apply IsS55.set_1) | exact HI223.out)) hb); have n4_ := Aside0.mk (below_step (by repeat (first | (with_reducible first | exact HB.out | apply below_alloc | apply pw_below_drewN | apply below_drew1 | refine below_set ?_ (IsS55.ge HI223.out)) | exact HB.out)) hb); clear HO_7; clear HO_10; clear HI223; clear HB; have HO_7 := n0_; have HO_10 := n1_; have HO239 := n2_; have HI223 := n3_; have HB := n4_; clear n0_ n1_ n2_ n3_ n4_; clear hb ho24; obtain ⟨Ao25, co25, eo25⟩ := Kd.R_slice HO239.out; subst eo25) | ((with_reducible refine gate_callee (f := 18) rfl ?_); refine goesL_ (some 49) rfl rfl Try.func18 (by kernel_rfl) rfl #[.pointer (some ⟨g223, 0, none⟩), .slice Ao25 y237.length co25] rfl (by (try simp only [List.map_toArray, List.map_cons, List.map_nil]); first | done | rfl | (simp only [List.length_drop, List.length_take]; rfl)) ?_; (with_reducible refine (tilefarmgen_Tape_Pick.calls g223 t221 t236 _ _ y237 t240 t241 w _ ?side1 ?side2 ?side3 ?side4 ?side5 A18.out).mono ?_); (case side1 => repeat (first | (with_reducible first | exact HI223.out | apply IsS55.alloc | apply IsS55.drewN | apply IsS55.drew | apply IsS55.set_1) | exact HI223.out)); (case side2 => repeat (first | (with_reducible first | exact HB.out | apply below_alloc | apply pw_below_drewN | apply below_drew1 | refine below_set ?_ (IsS55.ge HI223.out)) | exact HB.out)); (case side3 => repeat (first | exact (Kd.R_reads' HO239.out).2.2 | (with_reducible refine Kd.C_alloc ?_ _) | (with_reducible refine Kd.C_drewN ?_ _) | (with_reducible refine Kd.C_drew ?_))); (case side4 => exact (Kd.R_reads' HO239.out).2.1); (case side5 => exact far_slice (IsS55.own_ne HI223.out HO239.out (by decide))); rintro e w26 ⟨rfl, hi, hb, hk⟩; refine ⟨_, rfl, ?_⟩; have n0_ := Aside0.mk (Kd.S_mono (Kd.S_keep (IsS55.apartS (show IsS55 w _ g223 t221 t236 from by repeat (first | (with_reducible first | exact HI223.out | apply IsS55.alloc | apply IsS55.drewN | apply IsS55.drew | apply IsS55.set_1) | exact HI223.out)) (by (with_reducible repeat (first | apply Kd.S_alloc | apply Kd.S_drewN | apply Kd.S_drew)); exact HO_7.out) (by decide)) hk (fun _ h => h.2)) (fun _ h => h.1)); have n1_ := Aside0.mk (Kd.R_mono (Kd.R_keep (IsS55.apart (show IsS55 w _ g223 t221 t236 from by repeat (first | (with_reducible first | exact HI223.out | apply IsS55.alloc | apply IsS55.drewN | apply IsS55.drew | apply IsS55.set_1) | exact HI223.out)) (by (with_reducible repeat (first | apply Kd.R_alloc | apply Kd.R_drewN | apply Kd.R_drew)); exact HO_10.out) (by decide)) hk (fun _ h => h.2)) (fun _ h => h.1)); have n2_ := Aside0.mk (Kd.R_mono (Kd.R_keep (IsS55.apart (show IsS55 w _ g223 t221 t236 from by repeat (first | (with_reducible first | exact HI223.out | apply IsS55.alloc | apply IsS55.drewN | apply IsS55.drew | apply IsS55.set_1) | exact HI223.out)) (by (with_reducible repeat (first | apply Kd.R_alloc | apply Kd.R_drewN | apply Kd.R_drew)); exact HO239.out) (by decide)) hk (fun _ h => h.2)) (fun _ h => h.1)); have n3_ := Aside0.mk (hb); have n4_ := Aside0.mk (hi); clear HO_7; clear HO_10; clear HO239; clear HB; clear HI223; have HO_7 := n0_; have HO_10 := n1_; have HO239 := n2_; have HB := n3_; have HI223 := n4_; clear n0_ n1_ n2_ n3_ n4_; (try clear hb); (try clear hb2); (try clear hk); (try clear hi)) | ((with_reducible refine gate_builtin (b := .append) (xs := #[.tmp 40, .tmp 50]) rfl ?_); (try (refine gate_guard (by rfl) ?_; dsimp only)); at_builtin; refine Kd.R_append (Kd.int .i64) (w0 := w) w.heap.size rfl (.tmp 40) (.tmp 50) 22 3 (.int .i64 0) 8 rfl Try.underlying22 info3 rfl (by decide) (by omega) u10 x10_3 t240 [.int .i64 t240] (fun k_ => some k_ ≠ (.slice Ao25 y237.length co25 : Value).ownBlock) (fun _ => False) rfl rfl ?aP (fun _ hk => hk.elim) ?aF ?aO ?aB ?aS ?aL ?_; (case aP => exact rfl); (case aB => exact (by repeat (first | (with_reducible first | exact HB.out | apply below_alloc | apply pw_below_drewN | apply below_drew1 | refine below_set ?_ (IsS55.ge HI223.out)) | exact HB.out))); (case aF => exact (fun k_ hk => Kd.fresh' (Kd.R_lt (by (with_reducible repeat (first | apply Kd.R_alloc | apply Kd.R_drewN | apply Kd.R_drew)); exact HO239.out)) k_ hk)); (case aO => exact (by (with_reducible repeat (first | apply Kd.R_alloc | apply Kd.R_drewN | apply Kd.R_drew)); exact Kd.R_mono HO_10.out (fun _ hk => hk.2))); (case aS => exact (below_size (by repeat (first | (with_reducible first | exact HB.out | apply below_alloc | apply pw_below_drewN | apply below_drew1 | refine below_set ?_ (IsS55.ge HI223.out)) | exact HB.out)))); (case aL => have := LMc19.out; omega); intro v243 w27 ho hb hg hat; rw [← Ny242.out] at ho; have n0_ := Aside0.mk (Kd.S_after (ok := (fun k_ => some k_ ≠ (.slice Ao25 y237.length co25 : Value).ownBlock)) (by (with_reducible repeat (first | apply Kd.S_alloc | apply Kd.S_drewN | apply Kd.S_drew)); exact Kd.S_mono HO_7.out (fun _ hk => ⟨hk.2, hk.1⟩)) hg hat); have n1_ := Aside0.mk (IsS55.grown (by repeat (first | (with_reducible first | exact HI223.out | apply IsS55.alloc | apply IsS55.drewN | apply IsS55.drew | apply IsS55.set_1) | exact HI223.out)) hg (IsS55.own_ne HI223.out HO_10.out (by decide))); have n2_ := Aside0.mk (Kd.R_after (ok := (fun _ => True)) (by (with_reducible repeat (first | apply Kd.R_alloc | apply Kd.R_drewN | apply Kd.R_drew)); exact HO239.out) hg hat); have n3_ := Aside0.mk (hb); have n4_ := Aside0.mk (ho); clear HO_7; clear HI223; clear HO239; clear HB; clear HO_10; have HO_7 := n0_; have HI223 := n1_; have HO239 := n2_; have HB := n3_; have HO244 := n4_; clear n0_ n1_ n2_ n3_ n4_; clear ho hb hg hat))
                      go_roundg k3
                      case measure => have := HK1.out; have := HK2.out; have := HK3.out; omega
                      case rel => exact ⟨(y242), (wrap64 (x11_3 + 1)), (t241), (by first | rfl | (simp; done) | (simp [*]; done)), H', ⟨by have := HK1.out; have := HK2.out; have := HK3.out; omega⟩, ⟨by (with_reducible repeat (first | apply Kd.S_alloc | apply Kd.S_drewN | apply Kd.S_drew)); exact Kd.S_mono HO_7.out (fun _ hk => hk.2)⟩, ⟨by (with_reducible repeat (first | apply Kd.R_alloc | apply Kd.R_drewN | apply Kd.R_drew)); exact Kd.R_mono HO244.out (fun _ hk => trivial)⟩, ⟨by repeat (first | (with_reducible first | exact HI223.out | apply IsS55.alloc | apply IsS55.drewN | apply IsS55.drew | apply IsS55.set_1) | exact HI223.out)⟩, ⟨by repeat (first | (with_reducible first | exact HB.out | apply below_alloc | apply pw_below_drewN | apply below_drew1 | refine below_set ?_ (IsS55.ge HI223.out)) | exact HB.out)⟩⟩
                    · rw [if_neg c19] at H
                      exact absurd H (by simp)
                  · rw [if_neg c15] at H
                    have c15b0 : decide (x11_3 < (wrap64 (t227 + (wrap64 (Int.tdiv t231 11))))) = false := decide_eq_false c15
                    clear c15
                    by_cases c28 : x7_2.length < 5864062014805
                    · rw [if_pos c28] at H
                      have LMc28 := Aside0.mk c28
                      clear c28
                      obtain ⟨y245, hy245⟩ : ∃ y_ : List (List Int), y_ = (x7_2 ++ [x10_3]) := ⟨_, rfl⟩
                      replace H : (tilefarmlaw12_HistogramMerges.l1 k3 l1 x6_1 y245 t227 (wrap64 (x9_2 - 1)) t221 t232) = some r := by first | (rw [hy245]; with_reducible exact H) | (have H2_ := (Option.bind_some _ _).symm.trans H; rw [hy245]; with_reducible exact H2_) | (have H2_ := (Option.bind_some _ _).symm.trans H; with_reducible exact H2_) | with_reducible exact H | (rw [hy245]; exact H) | exact H
                      have Ny245 := Aside0.mk hy245
                      clear hy245
                      have H' := Aside0.mk H
                      clear H
                      go_wp2_with (first | ((with_reducible refine gate_callee (f := 10) rfl ?_); refine goesL_ (some 34) rfl rfl Try.func10 (by kernel_rfl) rfl #[.pointer (some ⟨g223, 0, none⟩), .int .i64 12] rfl (by (try simp only [List.map_toArray, List.map_cons, List.map_nil]); first | done | rfl | (simp only [List.length_drop, List.length_take]; rfl)) ?_; (with_reducible refine (tilefarmgen_Tape_Next.calls g223 t221 x224001_3 12 t231 t232 w _ ?side1 ?side2 A14.out).mono ?_); (case side1 => repeat (first | (with_reducible first | exact HI223.out | apply IsS55.alloc | apply IsS55.drewN | apply IsS55.drew | apply IsS55.set_1) | exact HI223.out)); (case side2 => repeat (first | (with_reducible first | exact HB.out | apply below_alloc | apply pw_below_drewN | apply below_drew1 | refine below_set ?_ (IsS55.ge HI223.out)) | exact HB.out)); rintro e w29 ⟨rfl, hi, hb, hk⟩; refine ⟨_, rfl, ?_⟩; have n0_ := Aside0.mk (Kd.S_mono (Kd.S_keep (IsS55.apartS (show IsS55 w _ g223 t221 x224001_3 from by repeat (first | (with_reducible first | exact HI223.out | apply IsS55.alloc | apply IsS55.drewN | apply IsS55.drew | apply IsS55.set_1) | exact HI223.out)) (by (with_reducible repeat (first | apply Kd.S_alloc | apply Kd.S_drewN | apply Kd.S_drew)); exact HO_7.out) (by decide)) hk (fun _ h => h.2)) (fun _ h => h.1)); have n1_ := Aside0.mk (Kd.R_mono (Kd.R_keep (IsS55.apart (show IsS55 w _ g223 t221 x224001_3 from by repeat (first | (with_reducible first | exact HI223.out | apply IsS55.alloc | apply IsS55.drewN | apply IsS55.drew | apply IsS55.set_1) | exact HI223.out)) (by (with_reducible repeat (first | apply Kd.R_alloc | apply Kd.R_drewN | apply Kd.R_drew)); exact HO_10.out) (by decide)) hk (fun _ h => h.2)) (fun _ h => h.1)); have n2_ := Aside0.mk (hb); have n3_ := Aside0.mk (hi); clear HO_7; clear HO_10; clear HB; clear HI223; have HO_7 := n0_; have HO_10 := n1_; have HB := n2_; have HI223 := n3_; clear n0_ n1_ n2_ n3_; (try clear hb); (try clear hb2); (try clear hk); (try clear hi); obtain ⟨Ao31, co31, eo31⟩ := Kd.R_slice HO_10.out; subst eo31) | ((with_reducible refine gate_builtin (b := .append) (xs := #[.tmp 52, .tmp 54]) rfl ?_); (try (refine gate_guard (by rfl) ?_; dsimp only)); at_builtin; refine Kd.S_append (Kd.slice 3 (Kd.int .i64)) (w0 := w) w.heap.size rfl (.tmp 52) (.tmp 54) 46 22 (.slice none 0 0) 24 rfl Try.underlying46 info22 rfl (by decide) (by omega) u7 x7_2 x10_3 [.slice Ao31 x10_3.length co31] (fun _ => True) (fun k_ => some k_ = (.slice Ao31 x10_3.length co31 : Value).ownBlock) rfl rfl ?aP (fun k_ hk_ => ((Kd.R_mono (ok' := fun k_ => ((fun _ => True)) k_ ∧ some k_ ≠ (u7 : Value).ownBlock) (Kd.R_apart' (HO_10.out) (Kd.S_typed HO_7.out) (by decide)) (fun k_ hk => ⟨trivial, hk.2⟩))).1 k_ hk_.symm) ?aF ?aO ?aB ?aS ?aL ?_; (case aP => exact Kd.M_row (Kd.R_mono (Kd.R_tight rfl (Kd.R_mono (ok' := fun k_ => ((fun _ => True)) k_ ∧ some k_ ≠ (u7 : Value).ownBlock) (Kd.R_apart' (HO_10.out) (Kd.S_typed HO_7.out) (by decide)) (fun k_ hk => ⟨trivial, hk.2⟩))) (fun _ h_ => h_))); (case aB => exact (by repeat (first | (with_reducible first | exact HB.out | apply below_alloc | apply pw_below_drewN | apply below_drew1 | refine below_set ?_ (IsS55.ge HI223.out)) | exact HB.out))); (case aF => exact (fun _ _ => trivial)); (case aO => exact (by (with_reducible repeat (first | apply Kd.S_alloc | apply Kd.S_drewN | apply Kd.S_drew)); exact Kd.S_mono HO_7.out (fun k_ hk => ⟨trivial, fun e_ => hk e_⟩))); (case aS => exact (below_size (by repeat (first | (with_reducible first | exact HB.out | apply below_alloc | apply pw_below_drewN | apply below_drew1 | refine below_set ?_ (IsS55.ge HI223.out)) | exact HB.out)))); (case aL => have := LMc28.out; omega); intro v246 w30 ho hb hg hat; rw [← Ny245.out] at ho; have n0_ := Aside0.mk (IsS55.grown (by repeat (first | (with_reducible first | exact HI223.out | apply IsS55.alloc | apply IsS55.drewN | apply IsS55.drew | apply IsS55.set_1) | exact HI223.out)) hg (IsS55.own_neS HI223.out HO_7.out (by decide))); have n1_ := Aside0.mk (hb); have n2_ := Aside0.mk (ho); clear HI223; clear HB; clear HO_7; clear HO_10; have HI223 := n0_; have HB := n1_; have HO247 := n2_; clear n0_ n1_ n2_; clear ho hb hg hat))
                      go_roundg k3
                      case measure => have := HK1.out; have := HK2.out; have := HK3.out; omega
                      case rel => exact ⟨(y245), (wrap64 (x9_2 - 1)), (t232), (by first | rfl | (simp; done) | (simp [*]; done)), H', ⟨by have := HK1.out; have := HK2.out; have := HK3.out; omega⟩, ⟨by (with_reducible repeat (first | apply Kd.S_alloc | apply Kd.S_drewN | apply Kd.S_drew)); exact HO247.out⟩, ⟨by repeat (first | (with_reducible first | exact HI223.out | apply IsS55.alloc | apply IsS55.drewN | apply IsS55.drew | apply IsS55.set_1) | exact HI223.out)⟩, ⟨by repeat (first | (with_reducible first | exact HB.out | apply below_alloc | apply pw_below_drewN | apply below_drew1 | refine below_set ?_ (IsS55.ge HI223.out)) | exact HB.out)⟩⟩
                    · rw [if_neg c28] at H
                      exact absurd H (by simp)
            · rw [if_neg c13] at H
              have c13b0 : decide (0 < x9_2) = false := decide_eq_false c13
              clear c13
              by_cases c32 : x6_1 = 3
              · rw [if_pos c32] at H
                have c32b0 : (x6_1 == 3) = true := beq_iff_eq.mpr c32
                have c32b1 : (x6_1 != 3) = false := bne_eq_false_iff_eq.mpr c32
                clear c32
                by_cases c33 : (l1.length : Int) ≤ 500
                · rw [if_pos c33] at H
                  have c33b0 : decide ((l1.length : Int) ≤ 500) = true := decide_eq_true c33
                  have c33b1 : decide (l1.length ≤ 500) = true := decide_eq_true (by omega)
                  clear c33
                  replace H := Option.bind_eq_some_iff.mp H
                  obtain ⟨⟨t248, t249⟩, A340, H⟩ := H
                  replace H : ((tilefarmref12_Merge.f k2 l1).bind fun bt252 => ((tilefarmref4_Same.f k2 t248 bt252.1).bind fun t256 => (if t256 = true then (if t249 = bt252.2 then (tilefarmlaw12_HistogramMerges.l0 k2 l1 (wrap64 (x6_1 + 1)) t221 x224001_2) else (some false)) else (some false)))) = some r := H
                  have A34 := Aside0.mk A340
                  clear A340
                  replace H := Option.bind_eq_some_iff.mp H
                  obtain ⟨⟨t252, t253⟩, A350, H⟩ := H
                  replace H : ((tilefarmref4_Same.f k2 t248 t252).bind fun t256 => (if t256 = true then (if t249 = t253 then (tilefarmlaw12_HistogramMerges.l0 k2 l1 (wrap64 (x6_1 + 1)) t221 x224001_2) else (some false)) else (some false))) = some r := H
                  have A35 := Aside0.mk A350
                  clear A350
                  replace H := Option.bind_eq_some_iff.mp H
                  obtain ⟨t256, A360, H⟩ := H
                  replace H : (if t256 = true then (if t249 = t253 then (tilefarmlaw12_HistogramMerges.l0 k2 l1 (wrap64 (x6_1 + 1)) t221 x224001_2) else (some false)) else (some false)) = some r := H
                  have A36 := Aside0.mk A360
                  clear A360
                  by_cases c37 : t256 = true
                  · subst c37
                    have H1 : (if t249 = t253 then (tilefarmlaw12_HistogramMerges.l0 k2 l1 (wrap64 (x6_1 + 1)) t221 x224001_2) else (some false)) = some r := by rw [if_pos rfl] at H; exact H
                    clear H
                    have H := H1
                    clear H1
                    by_cases c38 : t249 = t253
                    · rw [if_pos c38] at H
                      have c38b0 : (t249 == t253) = true := beq_iff_eq.mpr c38
                      have c38b1 : (t249 != t253) = false := bne_eq_false_iff_eq.mpr c38
                      clear c38
                      have H' := Aside0.mk H
                      clear H
                      go_wp2_with (first | ((with_reducible refine gate_callee (f := 25) rfl ?_); refine goesL_ (some 66) rfl rfl Try.func25 (by kernel_rfl) rfl #[.slice A1 l1.length c1] rfl (by (try simp only [List.map_toArray, List.map_cons, List.map_nil]); first | done | rfl | (simp only [List.length_drop, List.length_take]; rfl)) ?_; (with_reducible refine (histogram_Merge.calls k2 _ _ l1 t248 t249 _ ?side1 ?side2 A34.out).mono ?_); (case side1 => repeat (first | exact (Kd.C_below HR1.out HB.out) | (with_reducible refine Kd.C_alloc ?_ _) | (with_reducible refine Kd.C_drewN ?_ _) | (with_reducible refine Kd.C_drew ?_))); (case side2 => exact HC1.out); rintro e w39 ⟨v250, rfl, ho0, hb⟩; refine ⟨_, rfl, ?_⟩; have n0_ := Aside0.mk (Kd.S_elder' (by (with_reducible repeat (first | apply Kd.S_alloc | apply Kd.S_drewN | apply Kd.S_drew)); exact HO_7.out) (Kd.R_base ho0) hb); have n1_ := Aside0.mk (Kd.R_lower ho0 (below_size (by repeat (first | (with_reducible first | exact HB.out | apply below_alloc | apply pw_below_drewN | apply below_drew1 | refine below_set ?_ (IsS55.ge HI223.out)) | exact HB.out)))); have n2_ := Aside0.mk (IsS55.below (by repeat (first | (with_reducible first | exact HI223.out | apply IsS55.alloc | apply IsS55.drewN | apply IsS55.drew | apply IsS55.set_1) | exact HI223.out)) hb); have n3_ := Aside0.mk (below_step (by repeat (first | (with_reducible first | exact HB.out | apply below_alloc | apply pw_below_drewN | apply below_drew1 | refine below_set ?_ (IsS55.ge HI223.out)) | exact HB.out)) hb); clear HO_7; clear HI223; clear HB; have HO_7 := n0_; have HO251 := n1_; have HI223 := n2_; have HB := n3_; clear n0_ n1_ n2_ n3_; (try clear hb); (try clear hb2); (try clear hk); (try clear hi); (try clear ho0)) | ((with_reducible refine gate_callee (f := 26) rfl ?_); refine goesL_ (some 71) rfl rfl Try.func26 (by kernel_rfl) rfl #[.slice A1 l1.length c1] rfl (by (try simp only [List.map_toArray, List.map_cons, List.map_nil]); first | done | rfl | (simp only [List.length_drop, List.length_take]; rfl)) ?_; (with_reducible refine (tilefarmref12_Merge.calls k2 _ _ l1 t252 t253 _ ?side1 ?side2 A35.out).mono ?_); (case side1 => repeat (first | exact (Kd.C_below HR1.out HB.out) | (with_reducible refine Kd.C_alloc ?_ _) | (with_reducible refine Kd.C_drewN ?_ _) | (with_reducible refine Kd.C_drew ?_))); (case side2 => exact HC1.out); rintro e w40 ⟨v254, rfl, ho0, hb⟩; refine ⟨_, rfl, ?_⟩; have n0_ := Aside0.mk (Kd.S_elder' (by (with_reducible repeat (first | apply Kd.S_alloc | apply Kd.S_drewN | apply Kd.S_drew)); exact HO_7.out) (Kd.R_base ho0) hb); have n1_ := Aside0.mk (Kd.R_elder' (by (with_reducible repeat (first | apply Kd.R_alloc | apply Kd.R_drewN | apply Kd.R_drew)); exact HO251.out) (Kd.R_base ho0) hb); have n2_ := Aside0.mk (Kd.R_lower (Kd.R_new' ho0 (Kd.R_lt (by (with_reducible repeat (first | apply Kd.R_alloc | apply Kd.R_drewN | apply Kd.R_drew)); exact HO251.out))) (below_size (by repeat (first | (with_reducible first | exact HB.out | apply below_alloc | apply pw_below_drewN | apply below_drew1 | refine below_set ?_ (IsS55.ge HI223.out)) | exact HB.out)))); have n3_ := Aside0.mk (IsS55.below (by repeat (first | (with_reducible first | exact HI223.out | apply IsS55.alloc | apply IsS55.drewN | apply IsS55.drew | apply IsS55.set_1) | exact HI223.out)) hb); have n4_ := Aside0.mk (below_step (by repeat (first | (with_reducible first | exact HB.out | apply below_alloc | apply pw_below_drewN | apply below_drew1 | refine below_set ?_ (IsS55.ge HI223.out)) | exact HB.out)) hb); clear HO_7; clear HO251; clear HI223; clear HB; have HO_7 := n0_; have HO251 := n1_; have HO255 := n2_; have HI223 := n3_; have HB := n4_; clear n0_ n1_ n2_ n3_ n4_; (try clear hb); (try clear hb2); (try clear hk); (try clear hi); (try clear ho0); obtain ⟨Ao41, co41, eo41⟩ := Kd.R_slice HO251.out; subst eo41; obtain ⟨Ao42, co42, eo42⟩ := Kd.R_slice HO255.out; subst eo42) | ((with_reducible refine gate_callee (f := 24) rfl ?_); refine goesL_ (some 76) rfl rfl Try.func24 (by kernel_rfl) rfl #[.slice Ao41 t248.length co41, .slice Ao42 t252.length co42] rfl (by (try simp only [List.map_toArray, List.map_cons, List.map_nil]); first | done | rfl | (simp only [List.length_drop, List.length_take]; rfl)) ?_; (with_reducible refine (tilefarmref4_Same.calls k2 _ _ t248 _ _ t252 true _ ?side1 ?side2 ?side3 ?side4 A36.out).mono ?_); (case side1 => repeat (first | exact (Kd.R_reads' HO251.out).2.2 | (with_reducible refine Kd.C_alloc ?_ _) | (with_reducible refine Kd.C_drewN ?_ _) | (with_reducible refine Kd.C_drew ?_))); (case side2 => exact (Kd.R_reads' HO251.out).2.1); (case side3 => repeat (first | exact (Kd.R_reads' HO255.out).2.2 | (with_reducible refine Kd.C_alloc ?_ _) | (with_reducible refine Kd.C_drewN ?_ _) | (with_reducible refine Kd.C_drew ?_))); (case side4 => exact (Kd.R_reads' HO255.out).2.1); rintro e w' ⟨rfl, ⟨nd, rfl⟩⟩; refine ⟨_, rfl, ?_⟩))
                      go_roundg k2
                      case measure => have := HK1.out; have := HK2.out; omega
                      case rel => exact ⟨(wrap64 (x6_1 + 1)), (x224001_2), (by first | rfl | (simp; done) | (simp [*]; done)), H', ⟨by have := HK1.out; have := HK2.out; omega⟩, ⟨by repeat (first | (with_reducible first | exact HI223.out | apply IsS55.alloc | apply IsS55.drewN | apply IsS55.drew | apply IsS55.set_1) | exact HI223.out)⟩, ⟨by repeat (first | (with_reducible first | exact HB.out | apply below_alloc | apply pw_below_drewN | apply below_drew1 | refine below_set ?_ (IsS55.ge HI223.out)) | exact HB.out)⟩⟩
                    · rw [if_neg c38] at H
                      have c38b0 : (t249 == t253) = false := beq_eq_false_iff_ne.mpr c38
                      have c38b1 : (t249 != t253) = true := bne_iff_ne.mpr c38
                      exact absurd ((Option.some.inj H).trans HT.out) (by decide)
                  · replace c37 := Bool.eq_false_iff.mpr c37
                    subst c37
                    have H1 : (some false) = some r := by rw [if_neg (show ¬ (false = true) by decide)] at H; exact H
                    clear H
                    have H := H1
                    clear H1
                    exact absurd ((Option.some.inj H).trans HT.out) (by decide)
                · rw [if_neg c33] at H
                  have c33b0 : decide ((l1.length : Int) ≤ 500) = false := decide_eq_false c33
                  have c33b1 : decide (l1.length ≤ 500) = false := decide_eq_false (by omega)
                  clear c33
                  replace H := Option.bind_eq_some_iff.mp H
                  obtain ⟨⟨t257, t258⟩, A430, H⟩ := H
                  replace H : ((tilefarmref12_Merge.f k2 x7_2).bind fun bt261 => ((tilefarmref4_Same.f k2 t257 bt261.1).bind fun t265 => (if t265 = true then (if t258 = bt261.2 then (tilefarmlaw12_HistogramMerges.l0 k2 l1 (wrap64 (x6_1 + 1)) t221 x224001_2) else (some false)) else (some false)))) = some r := H
                  have A43 := Aside0.mk A430
                  clear A430
                  replace H := Option.bind_eq_some_iff.mp H
                  obtain ⟨⟨t261, t262⟩, A440, H⟩ := H
                  replace H : ((tilefarmref4_Same.f k2 t257 t261).bind fun t265 => (if t265 = true then (if t258 = t262 then (tilefarmlaw12_HistogramMerges.l0 k2 l1 (wrap64 (x6_1 + 1)) t221 x224001_2) else (some false)) else (some false))) = some r := H
                  have A44 := Aside0.mk A440
                  clear A440
                  replace H := Option.bind_eq_some_iff.mp H
                  obtain ⟨t265, A450, H⟩ := H
                  replace H : (if t265 = true then (if t258 = t262 then (tilefarmlaw12_HistogramMerges.l0 k2 l1 (wrap64 (x6_1 + 1)) t221 x224001_2) else (some false)) else (some false)) = some r := H
                  have A45 := Aside0.mk A450
                  clear A450
                  by_cases c46 : t265 = true
                  · subst c46
                    have H1 : (if t258 = t262 then (tilefarmlaw12_HistogramMerges.l0 k2 l1 (wrap64 (x6_1 + 1)) t221 x224001_2) else (some false)) = some r := by rw [if_pos rfl] at H; exact H
                    clear H
                    have H := H1
                    clear H1
                    by_cases c47 : t258 = t262
                    · rw [if_pos c47] at H
                      have c47b0 : (t258 == t262) = true := beq_iff_eq.mpr c47
                      have c47b1 : (t258 != t262) = false := bne_eq_false_iff_eq.mpr c47
                      clear c47
                      have H' := Aside0.mk H
                      clear H
                      obtain ⟨Ao48, co48, eo48⟩ := Kd.S_slice HO_7.out
                      subst eo48
                      go_wp2_with (first | ((with_reducible refine gate_callee (f := 25) rfl ?_); refine goesL_ (some 66) rfl rfl Try.func25 (by kernel_rfl) rfl #[.slice Ao48 x7_2.length co48] rfl (by (try simp only [List.map_toArray, List.map_cons, List.map_nil]); first | done | rfl | (simp only [List.length_drop, List.length_take]; rfl)) ?_; (with_reducible refine (histogram_Merge.calls k2 _ _ x7_2 t257 t258 _ ?side1 ?side2 A43.out).mono ?_); (case side1 => repeat (first | exact (Kd.S_reads' HO_7.out).2.2 | (with_reducible refine Kd.C_alloc ?_ _) | (with_reducible refine Kd.C_drewN ?_ _) | (with_reducible refine Kd.C_drew ?_))); (case side2 => exact (Kd.S_reads' HO_7.out).2.1); rintro e w49 ⟨v259, rfl, ho0, hb⟩; refine ⟨_, rfl, ?_⟩; have n0_ := Aside0.mk (Kd.S_elder' (by (with_reducible repeat (first | apply Kd.S_alloc | apply Kd.S_drewN | apply Kd.S_drew)); exact HO_7.out) (Kd.R_base ho0) hb); have n1_ := Aside0.mk (Kd.R_lower ho0 (below_size (by repeat (first | (with_reducible first | exact HB.out | apply below_alloc | apply pw_below_drewN | apply below_drew1 | refine below_set ?_ (IsS55.ge HI223.out)) | exact HB.out)))); have n2_ := Aside0.mk (IsS55.below (by repeat (first | (with_reducible first | exact HI223.out | apply IsS55.alloc | apply IsS55.drewN | apply IsS55.drew | apply IsS55.set_1) | exact HI223.out)) hb); have n3_ := Aside0.mk (below_step (by repeat (first | (with_reducible first | exact HB.out | apply below_alloc | apply pw_below_drewN | apply below_drew1 | refine below_set ?_ (IsS55.ge HI223.out)) | exact HB.out)) hb); clear HO_7; clear HI223; clear HB; have HO_7 := n0_; have HO260 := n1_; have HI223 := n2_; have HB := n3_; clear n0_ n1_ n2_ n3_; (try clear hb); (try clear hb2); (try clear hk); (try clear hi); (try clear ho0)) | ((with_reducible refine gate_callee (f := 26) rfl ?_); refine goesL_ (some 71) rfl rfl Try.func26 (by kernel_rfl) rfl #[.slice Ao48 x7_2.length co48] rfl (by (try simp only [List.map_toArray, List.map_cons, List.map_nil]); first | done | rfl | (simp only [List.length_drop, List.length_take]; rfl)) ?_; (with_reducible refine (tilefarmref12_Merge.calls k2 _ _ x7_2 t261 t262 _ ?side1 ?side2 A44.out).mono ?_); (case side1 => repeat (first | exact (Kd.S_reads' HO_7.out).2.2 | (with_reducible refine Kd.C_alloc ?_ _) | (with_reducible refine Kd.C_drewN ?_ _) | (with_reducible refine Kd.C_drew ?_))); (case side2 => exact (Kd.S_reads' HO_7.out).2.1); rintro e w50 ⟨v263, rfl, ho0, hb⟩; refine ⟨_, rfl, ?_⟩; have n0_ := Aside0.mk (Kd.S_elder' (by (with_reducible repeat (first | apply Kd.S_alloc | apply Kd.S_drewN | apply Kd.S_drew)); exact HO_7.out) (Kd.R_base ho0) hb); have n1_ := Aside0.mk (Kd.R_elder' (by (with_reducible repeat (first | apply Kd.R_alloc | apply Kd.R_drewN | apply Kd.R_drew)); exact HO260.out) (Kd.R_base ho0) hb); have n2_ := Aside0.mk (Kd.R_lower (Kd.R_new' ho0 (Kd.R_lt (by (with_reducible repeat (first | apply Kd.R_alloc | apply Kd.R_drewN | apply Kd.R_drew)); exact HO260.out))) (below_size (by repeat (first | (with_reducible first | exact HB.out | apply below_alloc | apply pw_below_drewN | apply below_drew1 | refine below_set ?_ (IsS55.ge HI223.out)) | exact HB.out)))); have n3_ := Aside0.mk (IsS55.below (by repeat (first | (with_reducible first | exact HI223.out | apply IsS55.alloc | apply IsS55.drewN | apply IsS55.drew | apply IsS55.set_1) | exact HI223.out)) hb); have n4_ := Aside0.mk (below_step (by repeat (first | (with_reducible first | exact HB.out | apply below_alloc | apply pw_below_drewN | apply below_drew1 | refine below_set ?_ (IsS55.ge HI223.out)) | exact HB.out)) hb); clear HO_7; clear HO260; clear HI223; clear HB; have HO_7 := n0_; have HO260 := n1_; have HO264 := n2_; have HI223 := n3_; have HB := n4_; clear n0_ n1_ n2_ n3_ n4_; (try clear hb); (try clear hb2); (try clear hk); (try clear hi); (try clear ho0); obtain ⟨Ao51, co51, eo51⟩ := Kd.R_slice HO260.out; subst eo51; obtain ⟨Ao52, co52, eo52⟩ := Kd.R_slice HO264.out; subst eo52) | ((with_reducible refine gate_callee (f := 24) rfl ?_); refine goesL_ (some 76) rfl rfl Try.func24 (by kernel_rfl) rfl #[.slice Ao51 t257.length co51, .slice Ao52 t261.length co52] rfl (by (try simp only [List.map_toArray, List.map_cons, List.map_nil]); first | done | rfl | (simp only [List.length_drop, List.length_take]; rfl)) ?_; (with_reducible refine (tilefarmref4_Same.calls k2 _ _ t257 _ _ t261 true _ ?side1 ?side2 ?side3 ?side4 A45.out).mono ?_); (case side1 => repeat (first | exact (Kd.R_reads' HO260.out).2.2 | (with_reducible refine Kd.C_alloc ?_ _) | (with_reducible refine Kd.C_drewN ?_ _) | (with_reducible refine Kd.C_drew ?_))); (case side2 => exact (Kd.R_reads' HO260.out).2.1); (case side3 => repeat (first | exact (Kd.R_reads' HO264.out).2.2 | (with_reducible refine Kd.C_alloc ?_ _) | (with_reducible refine Kd.C_drewN ?_ _) | (with_reducible refine Kd.C_drew ?_))); (case side4 => exact (Kd.R_reads' HO264.out).2.1); rintro e w' ⟨rfl, ⟨nd, rfl⟩⟩; refine ⟨_, rfl, ?_⟩))
                      go_roundg k2
                      case measure => have := HK1.out; have := HK2.out; omega
                      case rel => exact ⟨(wrap64 (x6_1 + 1)), (x224001_2), (by first | rfl | (simp; done) | (simp [*]; done)), H', ⟨by have := HK1.out; have := HK2.out; omega⟩, ⟨by repeat (first | (with_reducible first | exact HI223.out | apply IsS55.alloc | apply IsS55.drewN | apply IsS55.drew | apply IsS55.set_1) | exact HI223.out)⟩, ⟨by repeat (first | (with_reducible first | exact HB.out | apply below_alloc | apply pw_below_drewN | apply below_drew1 | refine below_set ?_ (IsS55.ge HI223.out)) | exact HB.out)⟩⟩
                    · rw [if_neg c47] at H
                      have c47b0 : (t258 == t262) = false := beq_eq_false_iff_ne.mpr c47
                      have c47b1 : (t258 != t262) = true := bne_iff_ne.mpr c47
                      exact absurd ((Option.some.inj H).trans HT.out) (by decide)
                  · replace c46 := Bool.eq_false_iff.mpr c46
                    subst c46
                    have H1 : (some false) = some r := by rw [if_neg (show ¬ (false = true) by decide)] at H; exact H
                    clear H
                    have H := H1
                    clear H1
                    exact absurd ((Option.some.inj H).trans HT.out) (by decide)
              · rw [if_neg c32] at H
                have c32b0 : (x6_1 == 3) = false := beq_eq_false_iff_ne.mpr c32
                have c32b1 : (x6_1 != 3) = true := bne_iff_ne.mpr c32
                replace H := Option.bind_eq_some_iff.mp H
                obtain ⟨⟨t266, t267⟩, A530, H⟩ := H
                replace H : ((tilefarmref12_Merge.f k2 x7_2).bind fun bt270 => ((tilefarmref4_Same.f k2 t266 bt270.1).bind fun t274 => (if t274 = true then (if t267 = bt270.2 then (tilefarmlaw12_HistogramMerges.l0 k2 l1 (wrap64 (x6_1 + 1)) t221 x224001_2) else (some false)) else (some false)))) = some r := H
                have A53 := Aside0.mk A530
                clear A530
                replace H := Option.bind_eq_some_iff.mp H
                obtain ⟨⟨t270, t271⟩, A540, H⟩ := H
                replace H : ((tilefarmref4_Same.f k2 t266 t270).bind fun t274 => (if t274 = true then (if t267 = t271 then (tilefarmlaw12_HistogramMerges.l0 k2 l1 (wrap64 (x6_1 + 1)) t221 x224001_2) else (some false)) else (some false))) = some r := H
                have A54 := Aside0.mk A540
                clear A540
                replace H := Option.bind_eq_some_iff.mp H
                obtain ⟨t274, A550, H⟩ := H
                replace H : (if t274 = true then (if t267 = t271 then (tilefarmlaw12_HistogramMerges.l0 k2 l1 (wrap64 (x6_1 + 1)) t221 x224001_2) else (some false)) else (some false)) = some r := H
                have A55 := Aside0.mk A550
                clear A550
                by_cases c56 : t274 = true
                · subst c56
                  have H1 : (if t267 = t271 then (tilefarmlaw12_HistogramMerges.l0 k2 l1 (wrap64 (x6_1 + 1)) t221 x224001_2) else (some false)) = some r := by rw [if_pos rfl] at H; exact H
                  clear H
                  have H := H1
                  clear H1
                  by_cases c57 : t267 = t271
                  · rw [if_pos c57] at H
                    have c57b0 : (t267 == t271) = true := beq_iff_eq.mpr c57
                    have c57b1 : (t267 != t271) = false := bne_eq_false_iff_eq.mpr c57
                    clear c57
                    have H' := Aside0.mk H
                    clear H
                    obtain ⟨Ao58, co58, eo58⟩ := Kd.S_slice HO_7.out
                    subst eo58
                    go_wp2_with (first | ((with_reducible refine gate_callee (f := 25) rfl ?_); refine goesL_ (some 66) rfl rfl Try.func25 (by kernel_rfl) rfl #[.slice Ao58 x7_2.length co58] rfl (by (try simp only [List.map_toArray, List.map_cons, List.map_nil]); first | done | rfl | (simp only [List.length_drop, List.length_take]; rfl)) ?_; (with_reducible refine (histogram_Merge.calls k2 _ _ x7_2 t266 t267 _ ?side1 ?side2 A53.out).mono ?_); (case side1 => repeat (first | exact (Kd.S_reads' HO_7.out).2.2 | (with_reducible refine Kd.C_alloc ?_ _) | (with_reducible refine Kd.C_drewN ?_ _) | (with_reducible refine Kd.C_drew ?_))); (case side2 => exact (Kd.S_reads' HO_7.out).2.1); rintro e w59 ⟨v268, rfl, ho0, hb⟩; refine ⟨_, rfl, ?_⟩; have n0_ := Aside0.mk (Kd.S_elder' (by (with_reducible repeat (first | apply Kd.S_alloc | apply Kd.S_drewN | apply Kd.S_drew)); exact HO_7.out) (Kd.R_base ho0) hb); have n1_ := Aside0.mk (Kd.R_lower ho0 (below_size (by repeat (first | (with_reducible first | exact HB.out | apply below_alloc | apply pw_below_drewN | apply below_drew1 | refine below_set ?_ (IsS55.ge HI223.out)) | exact HB.out)))); have n2_ := Aside0.mk (IsS55.below (by repeat (first | (with_reducible first | exact HI223.out | apply IsS55.alloc | apply IsS55.drewN | apply IsS55.drew | apply IsS55.set_1) | exact HI223.out)) hb); have n3_ := Aside0.mk (below_step (by repeat (first | (with_reducible first | exact HB.out | apply below_alloc | apply pw_below_drewN | apply below_drew1 | refine below_set ?_ (IsS55.ge HI223.out)) | exact HB.out)) hb); clear HO_7; clear HI223; clear HB; have HO_7 := n0_; have HO269 := n1_; have HI223 := n2_; have HB := n3_; clear n0_ n1_ n2_ n3_; (try clear hb); (try clear hb2); (try clear hk); (try clear hi); (try clear ho0)) | ((with_reducible refine gate_callee (f := 26) rfl ?_); refine goesL_ (some 71) rfl rfl Try.func26 (by kernel_rfl) rfl #[.slice Ao58 x7_2.length co58] rfl (by (try simp only [List.map_toArray, List.map_cons, List.map_nil]); first | done | rfl | (simp only [List.length_drop, List.length_take]; rfl)) ?_; (with_reducible refine (tilefarmref12_Merge.calls k2 _ _ x7_2 t270 t271 _ ?side1 ?side2 A54.out).mono ?_); (case side1 => repeat (first | exact (Kd.S_reads' HO_7.out).2.2 | (with_reducible refine Kd.C_alloc ?_ _) | (with_reducible refine Kd.C_drewN ?_ _) | (with_reducible refine Kd.C_drew ?_))); (case side2 => exact (Kd.S_reads' HO_7.out).2.1); rintro e w60 ⟨v272, rfl, ho0, hb⟩; refine ⟨_, rfl, ?_⟩; have n0_ := Aside0.mk (Kd.S_elder' (by (with_reducible repeat (first | apply Kd.S_alloc | apply Kd.S_drewN | apply Kd.S_drew)); exact HO_7.out) (Kd.R_base ho0) hb); have n1_ := Aside0.mk (Kd.R_elder' (by (with_reducible repeat (first | apply Kd.R_alloc | apply Kd.R_drewN | apply Kd.R_drew)); exact HO269.out) (Kd.R_base ho0) hb); have n2_ := Aside0.mk (Kd.R_lower (Kd.R_new' ho0 (Kd.R_lt (by (with_reducible repeat (first | apply Kd.R_alloc | apply Kd.R_drewN | apply Kd.R_drew)); exact HO269.out))) (below_size (by repeat (first | (with_reducible first | exact HB.out | apply below_alloc | apply pw_below_drewN | apply below_drew1 | refine below_set ?_ (IsS55.ge HI223.out)) | exact HB.out)))); have n3_ := Aside0.mk (IsS55.below (by repeat (first | (with_reducible first | exact HI223.out | apply IsS55.alloc | apply IsS55.drewN | apply IsS55.drew | apply IsS55.set_1) | exact HI223.out)) hb); have n4_ := Aside0.mk (below_step (by repeat (first | (with_reducible first | exact HB.out | apply below_alloc | apply pw_below_drewN | apply below_drew1 | refine below_set ?_ (IsS55.ge HI223.out)) | exact HB.out)) hb); clear HO_7; clear HO269; clear HI223; clear HB; have HO_7 := n0_; have HO269 := n1_; have HO273 := n2_; have HI223 := n3_; have HB := n4_; clear n0_ n1_ n2_ n3_ n4_; (try clear hb); (try clear hb2); (try clear hk); (try clear hi); (try clear ho0); obtain ⟨Ao61, co61, eo61⟩ := Kd.R_slice HO269.out; subst eo61; obtain ⟨Ao62, co62, eo62⟩ := Kd.R_slice HO273.out; subst eo62) | ((with_reducible refine gate_callee (f := 24) rfl ?_); refine goesL_ (some 76) rfl rfl Try.func24 (by kernel_rfl) rfl #[.slice Ao61 t266.length co61, .slice Ao62 t270.length co62] rfl (by (try simp only [List.map_toArray, List.map_cons, List.map_nil]); first | done | rfl | (simp only [List.length_drop, List.length_take]; rfl)) ?_; (with_reducible refine (tilefarmref4_Same.calls k2 _ _ t266 _ _ t270 true _ ?side1 ?side2 ?side3 ?side4 A55.out).mono ?_); (case side1 => repeat (first | exact (Kd.R_reads' HO269.out).2.2 | (with_reducible refine Kd.C_alloc ?_ _) | (with_reducible refine Kd.C_drewN ?_ _) | (with_reducible refine Kd.C_drew ?_))); (case side2 => exact (Kd.R_reads' HO269.out).2.1); (case side3 => repeat (first | exact (Kd.R_reads' HO273.out).2.2 | (with_reducible refine Kd.C_alloc ?_ _) | (with_reducible refine Kd.C_drewN ?_ _) | (with_reducible refine Kd.C_drew ?_))); (case side4 => exact (Kd.R_reads' HO273.out).2.1); rintro e w' ⟨rfl, ⟨nd, rfl⟩⟩; refine ⟨_, rfl, ?_⟩))
                    go_roundg k2
                    case measure => have := HK1.out; have := HK2.out; omega
                    case rel => exact ⟨(wrap64 (x6_1 + 1)), (x224001_2), (by first | rfl | (simp; done) | (simp [*]; done)), H', ⟨by have := HK1.out; have := HK2.out; omega⟩, ⟨by repeat (first | (with_reducible first | exact HI223.out | apply IsS55.alloc | apply IsS55.drewN | apply IsS55.drew | apply IsS55.set_1) | exact HI223.out)⟩, ⟨by repeat (first | (with_reducible first | exact HB.out | apply below_alloc | apply pw_below_drewN | apply below_drew1 | refine below_set ?_ (IsS55.ge HI223.out)) | exact HB.out)⟩⟩
                  · rw [if_neg c57] at H
                    have c57b0 : (t267 == t271) = false := beq_eq_false_iff_ne.mpr c57
                    have c57b1 : (t267 != t271) = true := bne_iff_ne.mpr c57
                    exact absurd ((Option.some.inj H).trans HT.out) (by decide)
                · replace c56 := Bool.eq_false_iff.mpr c56
                  subst c56
                  have H1 : (some false) = some r := by rw [if_neg (show ¬ (false = true) by decide)] at H; exact H
                  clear H
                  have H := H1
                  clear H1
                  exact absurd ((Option.some.inj H).trans HT.out) (by decide)
      · rw [if_neg c5] at H
        have c5b0 : decide (x6_1 < 4) = false := decide_eq_false c5
        clear c5
        replace H := Option.bind_eq_some_iff.mp H
        obtain ⟨t275, A630, H⟩ := H
        replace H : (some t275) = some r := H
        have A63 := Aside0.mk A630
        clear A630
        obtain rfl := Option.some.inj H
        go_wp2_with (first | ((with_reducible refine gate_callee (f := 16) rfl ?_); refine goesL_ (some 83) rfl rfl Try.func16 (by kernel_rfl) rfl #[] rfl (by (try simp only [List.map_toArray, List.map_cons, List.map_nil]); first | done | rfl | (simp only [List.length_drop, List.length_take]; rfl)) ?_; (with_reducible refine (tilefarmlaw12_sane.calls k1  t275 _ A63.out).mono ?_); rintro e w64 ⟨rfl, hb⟩; refine ⟨_, rfl, ?_⟩; have n0_ := Aside0.mk (IsS55.below (by repeat (first | (with_reducible first | exact HI223.out | apply IsS55.alloc | apply IsS55.drewN | apply IsS55.drew | apply IsS55.set_1) | exact HI223.out)) hb); have n1_ := Aside0.mk (below_step (by repeat (first | (with_reducible first | exact HB.out | apply below_alloc | apply pw_below_drewN | apply below_drew1 | refine below_set ?_ (IsS55.ge HI223.out)) | exact HB.out)) hb); clear HI223; clear HB; have HI223 := n0_; have HB := n1_; clear n0_ n1_; (try clear hb); (try clear hb2); (try clear hk); (try clear hi)))
        go_ret
        exact ⟨by first | rfl | (simp [errW_none, errW_some] <;> rfl) | (simp [*, errW_none, errW_some] <;> rfl), by repeat (first | (with_reducible first | exact HB.out | apply below_alloc | apply pw_below_drewN | apply below_drew1 | refine below_set ?_ (IsS55.ge HI223.out)) | exact HB.out)⟩

/-- THE ONE PURE STATEMENT of tilefarmlaw12_HistogramMerges. -/
def tilefarmlaw12_HistogramMerges.Pure : Prop := ∀ (l0 : List Int) (l1 : List (List Int)), l0.length ≤ maxLen → l0.length * 8 ≤ 140737488351232 → (∀ x ∈ l0, (Lit.int .i64 x).wf = true) → l1.length ≤ maxLen → ∃ k, tilefarmlaw12_HistogramMerges.f k l0 l1 = some true
theorem tilefarmlaw12_HistogramMerges.walk (P : tilefarmlaw12_HistogramMerges.Pure) (a0 : Option Addr) (len0 cap0 : Nat) (z0 : List Int) (A1 : Option Addr) (cap1 : Nat) (l1 : List (List Int)) (w : World) (w0 : (a0 = none ∧ len0 = 0 ∧ cap0 = 0 ∧ z0 = []) ∨ ∃ x, a0 = some x ∧ len0 ≤ cap0 ∧ cap0 ≤ maxLen ∧ z0.length = cap0 ∧ (∀ i, i < z0.length → w.cell? (x.add i) = some (.int .i64 (z0.getD i 0))) ∧ ∀ n ∈ z0, (Lit.int .i64 n).wf = true) (y0 : len0 * 8 ≤ 140737488351232) (hr1 : Kd.C (Kd.slice 3 (Kd.int .i64)) w A1 l1.length l1) (hc1 : l1.length ≤ cap1) (hm1 : l1.length ≤ maxLen) :
    Calls Try.prog 5 #[.slice a0 len0 cap0, .slice A1 l1.length cap1] w fun e w' => e = .returned (.bool true) ∧ Below w.heap.size w w' := by
  obtain ⟨l0, rfl, hr0, hm0, hw0, hc0⟩ := ReadsInt.ofRowC w0
  obtain ⟨k, h⟩ := P l0 l1 hm0 y0 hw0 hm1
  refine (tilefarmlaw12_HistogramMerges.calls k _ _ l0 _ _ l1 true w (Kd.C_of_reads (d := (0 : Int)) (h1 := fun _ => rfl) hr0) hc0 hr1 hc1 h).mono ?_
  rintro e w' ⟨rfl, hd⟩
  exact ⟨rfl, hd⟩


end Go.Proofs.Yticicecobchdiaa.PHistogramMerges
