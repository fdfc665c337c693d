-- Written by a program of the session (wip/tools/pack.py): the printed texts, pruned; checked by Lean.
import Derived.Test.YtdkmgcckcimhfaaKRectComputesa
import Derived.Test.YtdkmgcckcimhfaaKRectComputesx0
import Derived.Test.YtdkmgcckcimhfaaKRectComputesx5
import Derived.Test.YtdkmgcckcimhfaaKRectComputesx7
namespace Go.Proofs.Ytdkmgcckcimhfaa.PRectComputes
open Go.RowKit Go.Proofs.YtdkmgcckcimhfaaW.PrintWords Go.Proofs.YtdkmgcckcimhfaaW.PrintLast Go.Proofs.YtdkmgcckcimhfaaW.PrintMore
attribute [local go_sem] max2_int min2_int max_two min_two max_three min_three max_four min_four   -- for this text's walks alone
set_option linter.unusedVariables false
set_option linter.unusedSimpArgs false
def tilefarmref2_Hull.j0 : Nat → Bool → Int → Int → Int → Int → Int → Int → Int → Int → Option (Int × Int × Int × Int)
  | 0, _, _, _, _, _, _, _, _, _ => none
  | k + 1, x5, x251000, x251001, x251002, x251003, x252000, x252001, x252002, x252003 => if x5 = true then (some (0, 0, 0, 0)) else ((tilefarmref2_Empty.f x251000 x251001 x251002 x251003).bind fun t255 => (if t255 = true then (some (x252000, x252001, x252002, x252003)) else ((tilefarmref2_Empty.f x252000 x252001 x252002 x252003).bind fun t256 => (if t256 = true then (some (x251000, x251001, x251002, x251003)) else (some (mn x251000 x252000, mn x251001 x252001, mx x251002 x252002, mx x251003 x252003))))))
def tilefarmref2_Hull.f (k : Nat) (a0_0 : Int) (a0_1 : Int) (a0_2 : Int) (a0_3 : Int) (a1_0 : Int) (a1_1 : Int) (a1_2 : Int) (a1_3 : Int) : Option (Int × Int × Int × Int) := (tilefarmref2_Valid.f a0_0 a0_1 a0_2 a0_3).bind fun t253 => (if t253 = true then ((tilefarmref2_Valid.f a1_0 a1_1 a1_2 a1_3).bind fun t254 => (tilefarmref2_Hull.j0 k (!t254) a0_0 a0_1 a0_2 a0_3 a1_0 a1_1 a1_2 a1_3)) else (tilefarmref2_Hull.j0 k true a0_0 a0_1 a0_2 a0_3 a1_0 a1_1 a1_2 a1_3))
theorem tilefarmref2_Hull.mono_l : ∀ k, (∀ y0 y1 y2 y3 y4 y5 y6 y7 y8, LeO (tilefarmref2_Hull.j0 k y0 y1 y2 y3 y4 y5 y6 y7 y8) (tilefarmref2_Hull.j0 (k + 1) y0 y1 y2 y3 y4 y5 y6 y7 y8))
  | 0 => fun _ _ _ _ _ _ _ _ _ r h => by simp [tilefarmref2_Hull.j0] at h
  | k + 1 => by
    have ih0 := tilefarmref2_Hull.mono_l k
    · intro y0 y1 y2 y3 y4 y5 y6 y7 y8
      unfold tilefarmref2_Hull.j0
      repeat' first
      | (with_reducible exact ih0 _ _ _ _ _ _ _ _ _)
      | (with_reducible exact LeO.refl _)
      | (with_reducible exact LeO.none _)
      | (with_reducible refine LeO.ite ?_ ?_)
      | (with_reducible refine LeO.bind ?_ (fun _ => ?_))
      | exact ih0 _ _ _ _ _ _ _ _ _
      | exact LeO.none _
      | refine LeO.ite ?_ ?_
      | refine LeO.bind ?_ (fun _ => ?_)
theorem tilefarmref2_Hull.mono : ∀ a0 a1 a2 a3 a4 a5 a6 a7 k, LeO (tilefarmref2_Hull.f k a0 a1 a2 a3 a4 a5 a6 a7) (tilefarmref2_Hull.f (k + 1) a0 a1 a2 a3 a4 a5 a6 a7) := by
  intro a0 a1 a2 a3 a4 a5 a6 a7 k
  have ih0 := tilefarmref2_Hull.mono_l k
  unfold tilefarmref2_Hull.f
  repeat' first
      | (with_reducible exact ih0 _ _ _ _ _ _ _ _ _)
      | (with_reducible exact LeO.refl _)
      | (with_reducible exact LeO.none _)
      | (with_reducible refine LeO.ite ?_ ?_)
      | (with_reducible refine LeO.bind ?_ (fun _ => ?_))
      | exact ih0 _ _ _ _ _ _ _ _ _
      | exact LeO.none _
      | refine LeO.ite ?_ ?_
      | refine LeO.bind ?_ (fun _ => ?_)
set_option maxHeartbeats 8000000 in
set_option maxRecDepth 100000 in
theorem tilefarmref2_Hull.calls (k : Nat) (a0_0 : Int) (a0_1 : Int) (a0_2 : Int) (a0_3 : Int) (a1_0 : Int) (a1_1 : Int) (a1_2 : Int) (a1_3 : Int) (r1 : Int) (r2 : Int) (r3 : Int) (r4 : Int) (w : World) (h : tilefarmref2_Hull.f k a0_0 a0_1 a0_2 a0_3 a1_0 a1_1 a1_2 a1_3 = some (r1, r2, r3, r4)) :
    Calls Try.prog 32 #[.agg #[.int .i64 a0_0, .int .i64 a0_1, .int .i64 a0_2, .int .i64 a0_3], .agg #[.int .i64 a1_0, .int .i64 a1_1, .int .i64 a1_2, .int .i64 a1_3]] w fun e w' => e = .returned (.agg #[.int .i64 r1, .int .i64 r2, .int .i64 r3, .int .i64 r4]) ∧ Below w.heap.size w w' := by
  have hu26 := Try.underlying26
  have HB := Aside0.mk (Below.refl w.heap.size w)
  have H : ((tilefarmref2_Valid.f a0_0 a0_1 a0_2 a0_3).bind fun t253 => (if t253 = true then ((tilefarmref2_Valid.f a1_0 a1_1 a1_2 a1_3).bind fun t254 => (tilefarmref2_Hull.j0 k (!t254) a0_0 a0_1 a0_2 a0_3 a1_0 a1_1 a1_2 a1_3)) else (tilefarmref2_Hull.j0 k true a0_0 a0_1 a0_2 a0_3 a1_0 a1_1 a1_2 a1_3))) = some (r1, r2, r3, r4) := h
  clear h
  have HC3 := Aside0.mk H
  clear H
  go_enter Try.func32, Try.ntmps32
  go_upto_region 1 with (first | ((with_reducible refine gate_dst (N := 2) rfl ?_); refine box_event ?hg (N := 2) ?hd (cs := #[.int .i64 a0_0, .int .i64 a0_1, .int .i64 a0_2, .int .i64 a0_3]) (t := 26) ?hr ?_; (case hd => rfl); (case hg => rfl); (case hr => first | (go_simp; done) | (go_simp; rfl)); intro gb250 hg w4 hbox hb; have n0_ := Aside0.mk (below_step q129_ hb); have n1_ := Aside0.mk (hbox); have n2_ := Aside0.mk ((q104_ : w.heap.size ≤ gb250)); have n3_ := Aside0.mk ((q104_ : w.heap.size ≤ gb250)); clear HB; have HB := n0_; have BK250 := n1_; have GW250 := n2_; have GE250 := n3_; clear n0_ n1_ n2_ n3_; clear hb hbox hg) | ((with_reducible refine gate_dst (N := 3) rfl ?_); refine box_event ?hg (N := 3) ?hd (cs := #[.int .i64 a1_0, .int .i64 a1_1, .int .i64 a1_2, .int .i64 a1_3]) (t := 26) ?hr ?_; (case hd => rfl); (case hg => rfl); (case hr => first | (go_simp; done) | (go_simp; rfl)); intro gb251 hg w5 hbox hb; have n0_ := Aside0.mk (blk_below (g := gb250) (o := .cells #[.int .i64 a0_0, .int .i64 a0_1, .int .i64 a0_2, .int .i64 a0_3] 26 (0, 0)) q158_ hb); have n1_ := Aside0.mk (below_step q120_ hb); have n2_ := Aside0.mk (hbox); have n3_ := Aside0.mk ((by rw [hg]; exact (below_size q120_) : w.heap.size ≤ gb251)); have n4_ := Aside0.mk ((by rw [hg]; exact (below_size q120_) : w.heap.size ≤ gb251)); have n5_ := Aside0.mk ((by rw [hg]; exact Nat.ne_of_lt (blk_lt (g := gb250) (o := .cells #[.int .i64 a0_0, .int .i64 a0_1, .int .i64 a0_2, .int .i64 a0_3] 26 (0, 0)) q158_) : gb250 ≠ gb251)); have n6_ := Aside0.mk ((by rw [hg]; exact Nat.ne_of_gt (blk_lt (g := gb250) (o := .cells #[.int .i64 a0_0, .int .i64 a0_1, .int .i64 a0_2, .int .i64 a0_3] 26 (0, 0)) q158_) : gb251 ≠ gb250)); clear BK250; clear HB; have BK250 := n0_; have HB := n1_; have BK251 := n2_; have GW251 := n3_; have GE251 := n4_; have NB250_251 := n5_; have NB251_250 := n6_; clear n0_ n1_ n2_ n3_ n4_ n5_ n6_; clear hb hbox hg) | ((with_reducible refine gate_dst (N := 4) rfl ?_); refine box_event ?hg (N := 4) ?hd (cs := #[.int .i64 0, .int .i64 0, .int .i64 0, .int .i64 0]) (t := 26) ?hr ?_; (case hd => rfl); (case hg => rfl); (case hr => first | (go_simp; done) | (go_simp; rfl)); intro gb252 hg w6 hbox hb; have n0_ := Aside0.mk (blk_below (g := gb250) (o := .cells #[.int .i64 a0_0, .int .i64 a0_1, .int .i64 a0_2, .int .i64 a0_3] 26 (0, 0)) q158_ hb); have n1_ := Aside0.mk (blk_below (g := gb251) (o := .cells #[.int .i64 a1_0, .int .i64 a1_1, .int .i64 a1_2, .int .i64 a1_3] 26 (0, 0)) q159_ hb); have n2_ := Aside0.mk (below_step q96_ hb); have n3_ := Aside0.mk (hbox); have n4_ := Aside0.mk ((by rw [hg]; exact (below_size q96_) : w.heap.size ≤ gb252)); have n5_ := Aside0.mk ((by rw [hg]; exact (below_size q96_) : w.heap.size ≤ gb252)); have n6_ := Aside0.mk ((by rw [hg]; exact Nat.ne_of_lt (blk_lt (g := gb250) (o := .cells #[.int .i64 a0_0, .int .i64 a0_1, .int .i64 a0_2, .int .i64 a0_3] 26 (0, 0)) q158_) : gb250 ≠ gb252)); have n7_ := Aside0.mk ((by rw [hg]; exact Nat.ne_of_gt (blk_lt (g := gb250) (o := .cells #[.int .i64 a0_0, .int .i64 a0_1, .int .i64 a0_2, .int .i64 a0_3] 26 (0, 0)) q158_) : gb252 ≠ gb250)); have n8_ := Aside0.mk ((by rw [hg]; exact Nat.ne_of_lt (blk_lt (g := gb251) (o := .cells #[.int .i64 a1_0, .int .i64 a1_1, .int .i64 a1_2, .int .i64 a1_3] 26 (0, 0)) q159_) : gb251 ≠ gb252)); have n9_ := Aside0.mk ((by rw [hg]; exact Nat.ne_of_gt (blk_lt (g := gb251) (o := .cells #[.int .i64 a1_0, .int .i64 a1_1, .int .i64 a1_2, .int .i64 a1_3] 26 (0, 0)) q159_) : gb252 ≠ gb251)); clear BK250; clear BK251; clear HB; have BK250 := n0_; have BK251 := n1_; have HB := n2_; have BK252 := n3_; have GW252 := n4_; have GE252 := n5_; have NB250_252 := n6_; have NB252_250 := n7_; have NB251_252 := n8_; have NB252_251 := n9_; clear n0_ n1_ n2_ n3_ n4_ n5_ n6_ n7_ n8_ n9_; clear hb hbox hg))
  (try simp only [Act.put, List.setIfInBounds_toArray, List.set_cons_zero, List.set_cons_succ])
  go_cut [5] (fun v5 wc => ∃ (kq : Nat) (x5_2 : Bool), v5 = .bool x5_2 ∧ Aside0 (tilefarmref2_Hull.j0 kq x5_2 a0_0 a0_1 a0_2 a0_3 a1_0 a1_1 a1_2 a1_3 = some (r1, r2, r3, r4)) ∧ Aside0 (kq ≤ k) ∧ Aside0 (wc.heap[gb250]? = some (.cells #[.int .i64 a0_0, .int .i64 a0_1, .int .i64 a0_2, .int .i64 a0_3] 26 (0, 0))) ∧ Aside0 (wc.heap[gb251]? = some (.cells #[.int .i64 a1_0, .int .i64 a1_1, .int .i64 a1_2, .int .i64 a1_3] 26 (0, 0))) ∧ Aside0 (wc.heap[gb252]? = some (.cells #[.int .i64 0, .int .i64 0, .int .i64 0, .int .i64 0] 26 (0, 0))) ∧ Aside0 (Below w.heap.size w wc))
  case first =>
    have H := HC3.out
    clear HC3
    replace H := Option.bind_eq_some_iff.mp H
    obtain ⟨t253, A70, H⟩ := H
    replace H : (if t253 = true then ((tilefarmref2_Valid.f a1_0 a1_1 a1_2 a1_3).bind fun t254 => (tilefarmref2_Hull.j0 k (!t254) a0_0 a0_1 a0_2 a0_3 a1_0 a1_1 a1_2 a1_3)) else (tilefarmref2_Hull.j0 k true a0_0 a0_1 a0_2 a0_3 a1_0 a1_1 a1_2 a1_3)) = some (r1, r2, r3, r4) := H
    have A7 := Aside0.mk A70
    clear A70
    by_cases c8 : t253 = true
    · subst c8
      have H1 : ((tilefarmref2_Valid.f a1_0 a1_1 a1_2 a1_3).bind fun t254 => (tilefarmref2_Hull.j0 k (!t254) a0_0 a0_1 a0_2 a0_3 a1_0 a1_1 a1_2 a1_3)) = some (r1, r2, r3, r4) := by rw [if_pos rfl] at H; exact H
      clear H
      have H := H1
      clear H1
      replace H := Option.bind_eq_some_iff.mp H
      obtain ⟨t254, A90, H⟩ := H
      replace H : (tilefarmref2_Hull.j0 k (!t254) a0_0 a0_1 a0_2 a0_3 a1_0 a1_1 a1_2 a1_3) = some (r1, r2, r3, r4) := H
      have A9 := Aside0.mk A90
      clear A90
      have H' := Aside0.mk H
      clear H
      have hnb10 := NB250_251.out
      have hnc10 := NB251_250.out
      have hnb11 := NB250_252.out
      have hnc11 := NB252_250.out
      have hcz12_0 : w6.cell? ⟨gb250, 0, none⟩ = some (.int .i64 a0_0) := (blk_cell BK250.out 0).trans rfl
      have hcz12_1 : w6.cell? ⟨gb250, 1, none⟩ = some (.int .i64 a0_1) := (blk_cell BK250.out 1).trans rfl
      have hcz12_2 : w6.cell? ⟨gb250, 2, none⟩ = some (.int .i64 a0_2) := (blk_cell BK250.out 2).trans rfl
      have hcz12_3 : w6.cell? ⟨gb250, 3, none⟩ = some (.int .i64 a0_3) := (blk_cell BK250.out 3).trans rfl
      have hfz12_0 := blk_frozen BK250.out 0
      have hfz12_1 := blk_frozen BK250.out 1
      have hfz12_2 := blk_frozen BK250.out 2
      have hfz12_3 := blk_frozen BK250.out 3
      go_wp2_with (first | ((with_reducible refine gate_callee (f := 9) rfl ?_); refine goesL_ (some 7) rfl rfl Try.func9 (by kernel_rfl) rfl #[.agg #[.int .i64 a0_0, .int .i64 a0_1, .int .i64 a0_2, .int .i64 a0_3]] rfl q128_ ?_; (with_reducible refine (tilefarmref2_Valid.calls a0_0 a0_1 a0_2 a0_3 true _ A7.out).mono ?_); rintro e w13 ⟨rfl, hb⟩; refine ⟨_, rfl, ?_⟩; have n0_ := Aside0.mk (blk_below (g := gb250) (o := .cells #[.int .i64 a0_0, .int .i64 a0_1, .int .i64 a0_2, .int .i64 a0_3] 26 (0, 0)) q158_ hb); have n1_ := Aside0.mk (blk_below (g := gb251) (o := .cells #[.int .i64 a1_0, .int .i64 a1_1, .int .i64 a1_2, .int .i64 a1_3] 26 (0, 0)) q159_ hb); have n2_ := Aside0.mk (blk_below (g := gb252) (o := .cells #[.int .i64 0, .int .i64 0, .int .i64 0, .int .i64 0] 26 (0, 0)) q160_ hb); have n3_ := Aside0.mk (below_step q75_ hb); clear BK250; clear BK251; clear BK252; clear HB; have BK250 := n0_; have BK251 := n1_; have BK252 := n2_; have HB := n3_; clear n0_ n1_ n2_ n3_; (try clear hb); (try clear hb2); (try clear hk); (try clear hi); have hnb14 := NB251_252.out; have hnc14 := NB252_251.out; have hcz15_0 : w13.cell? ⟨gb251, 0, none⟩ = some (.int .i64 a1_0) := (blk_cell BK251.out 0).trans rfl; have hcz15_1 : w13.cell? ⟨gb251, 1, none⟩ = some (.int .i64 a1_1) := (blk_cell BK251.out 1).trans rfl; have hcz15_2 : w13.cell? ⟨gb251, 2, none⟩ = some (.int .i64 a1_2) := (blk_cell BK251.out 2).trans rfl; have hcz15_3 : w13.cell? ⟨gb251, 3, none⟩ = some (.int .i64 a1_3) := (blk_cell BK251.out 3).trans rfl; have hfz15_0 := blk_frozen BK251.out 0; have hfz15_1 := blk_frozen BK251.out 1; have hfz15_2 := blk_frozen BK251.out 2; have hfz15_3 := blk_frozen BK251.out 3) | (go_at_call 9; (with_reducible refine (tilefarmref2_Valid.calls a1_0 a1_1 a1_2 a1_3 t254 _ A9.out).mono ?_); rintro e w16 ⟨rfl, hb⟩; have n0_ := Aside0.mk (blk_below (g := gb250) (o := .cells #[.int .i64 a0_0, .int .i64 a0_1, .int .i64 a0_2, .int .i64 a0_3] 26 (0, 0)) q158_ hb); have n1_ := Aside0.mk (blk_below (g := gb251) (o := .cells #[.int .i64 a1_0, .int .i64 a1_1, .int .i64 a1_2, .int .i64 a1_3] 26 (0, 0)) q159_ hb); have n2_ := Aside0.mk (blk_below (g := gb252) (o := .cells #[.int .i64 0, .int .i64 0, .int .i64 0, .int .i64 0] 26 (0, 0)) q160_ hb); have n3_ := Aside0.mk (below_step q75_ hb); clear BK250; clear BK251; clear BK252; clear HB; have BK250 := n0_; have BK251 := n1_; have BK252 := n2_; have HB := n3_; clear n0_ n1_ n2_ n3_; (try clear hb); (try clear hb2); (try clear hk); (try clear hi)))
      go_meet
      case rel => exact ⟨_, (!t254), q180_, H', ⟨by first | omega | exact Nat.le_refl _⟩, ⟨q158_⟩, ⟨q159_⟩, ⟨q160_⟩, ⟨q75_⟩⟩
    · replace c8 := Bool.eq_false_iff.mpr c8
      subst c8
      have H1 : (tilefarmref2_Hull.j0 k true a0_0 a0_1 a0_2 a0_3 a1_0 a1_1 a1_2 a1_3) = some (r1, r2, r3, r4) := by rw [if_neg (show ¬ (false = true) by decide)] at H; exact H
      clear H
      have H := H1
      clear H1
      have H' := Aside0.mk H
      clear H
      have hnb17 := NB250_251.out
      have hnc17 := NB251_250.out
      have hnb18 := NB250_252.out
      have hnc18 := NB252_250.out
      have hcz19_0 : w6.cell? ⟨gb250, 0, none⟩ = some (.int .i64 a0_0) := (blk_cell BK250.out 0).trans rfl
      have hcz19_1 : w6.cell? ⟨gb250, 1, none⟩ = some (.int .i64 a0_1) := (blk_cell BK250.out 1).trans rfl
      have hcz19_2 : w6.cell? ⟨gb250, 2, none⟩ = some (.int .i64 a0_2) := (blk_cell BK250.out 2).trans rfl
      have hcz19_3 : w6.cell? ⟨gb250, 3, none⟩ = some (.int .i64 a0_3) := (blk_cell BK250.out 3).trans rfl
      have hfz19_0 := blk_frozen BK250.out 0
      have hfz19_1 := blk_frozen BK250.out 1
      have hfz19_2 := blk_frozen BK250.out 2
      have hfz19_3 := blk_frozen BK250.out 3
      go_wp2_with (first | ((with_reducible refine gate_callee (f := 9) rfl ?_); refine goesL_ (some 7) rfl rfl Try.func9 (by kernel_rfl) rfl #[.agg #[.int .i64 a0_0, .int .i64 a0_1, .int .i64 a0_2, .int .i64 a0_3]] rfl q128_ ?_; (with_reducible refine (tilefarmref2_Valid.calls a0_0 a0_1 a0_2 a0_3 false _ A7.out).mono ?_); rintro e w20 ⟨rfl, hb⟩; refine ⟨_, rfl, ?_⟩; have n0_ := Aside0.mk (blk_below (g := gb250) (o := .cells #[.int .i64 a0_0, .int .i64 a0_1, .int .i64 a0_2, .int .i64 a0_3] 26 (0, 0)) q158_ hb); have n1_ := Aside0.mk (blk_below (g := gb251) (o := .cells #[.int .i64 a1_0, .int .i64 a1_1, .int .i64 a1_2, .int .i64 a1_3] 26 (0, 0)) q159_ hb); have n2_ := Aside0.mk (blk_below (g := gb252) (o := .cells #[.int .i64 0, .int .i64 0, .int .i64 0, .int .i64 0] 26 (0, 0)) q160_ hb); have n3_ := Aside0.mk (below_step q75_ hb); clear BK250; clear BK251; clear BK252; clear HB; have BK250 := n0_; have BK251 := n1_; have BK252 := n2_; have HB := n3_; clear n0_ n1_ n2_ n3_; (try clear hb); (try clear hb2); (try clear hk); (try clear hi)))
      go_meet
      case rel => exact ⟨_, (true), q180_, H', ⟨by first | omega | exact Nat.le_refl _⟩, ⟨q158_⟩, ⟨q159_⟩, ⟨q160_⟩, ⟨q75_⟩⟩
  case rest =>
    clear HC3
    try clear c1
    try clear p2
    try clear c3
    try clear c8
    try clear c9
    try clear c10
    try clear c11
    try clear c14
    try clear c17
    try clear c18
    try clear hcz12_0
    try clear hcz12_1
    try clear hcz12_2
    try clear hcz12_3
    try clear hcz15_0
    try clear hcz15_1
    try clear hcz15_2
    try clear hcz15_3
    try clear hcz19_0
    try clear hcz19_1
    try clear hcz19_2
    try clear hcz19_3
    try clear hfz12_0
    try clear hfz12_1
    try clear hfz12_2
    try clear hfz12_3
    try clear hfz15_0
    try clear hfz15_1
    try clear hfz15_2
    try clear hfz15_3
    try clear hfz19_0
    try clear hfz19_1
    try clear hfz19_2
    try clear hfz19_3
    obtain ⟨kq, x5_2, rfl, HA, HJ2, BK250, BK251, BK252, HB⟩ := hcut
    cases kq with
    | zero => exact absurd HA.out (by simp [tilefarmref2_Hull.j0])
    | succ kj2 =>
      have H := HA.out
      clear HA
      simp only [tilefarmref2_Hull.j0] at H
      by_cases c21 : x5_2 = true
      · subst c21
        have H1 : (some (0, 0, 0, 0)) = some (r1, r2, r3, r4) := by rw [if_pos rfl] at H; exact H
        clear H
        have H := H1
        clear H1
        simp only [Option.some.injEq, Prod.mk.injEq] at H
        obtain ⟨rfl, rfl, rfl, rfl⟩ := H
        have hnb22 := NB252_250.out
        have hnc22 := NB250_252.out
        have hnb23 := NB252_251.out
        have hnc23 := NB251_252.out
        have hcz24_0 : wc.cell? ⟨gb252, 0, none⟩ = some (.int .i64 0) := (blk_cell BK252.out 0).trans rfl
        have hcz24_1 : wc.cell? ⟨gb252, 1, none⟩ = some (.int .i64 0) := (blk_cell BK252.out 1).trans rfl
        have hcz24_2 : wc.cell? ⟨gb252, 2, none⟩ = some (.int .i64 0) := (blk_cell BK252.out 2).trans rfl
        have hcz24_3 : wc.cell? ⟨gb252, 3, none⟩ = some (.int .i64 0) := (blk_cell BK252.out 3).trans rfl
        have hfz24_0 := blk_frozen BK252.out 0
        have hfz24_1 := blk_frozen BK252.out 1
        have hfz24_2 := blk_frozen BK252.out 2
        have hfz24_3 := blk_frozen BK252.out 3
        go_wp2
        refine bodyPost_ret (results_cell_row rfl _ _ gb252 26 #[.int .i64 0, .int .i64 0, .int .i64 0, .int .i64 0] (0, 0) _ rfl (by (with_reducible repeat (first | refine blk_drewN ?_ _ | refine blk_drew ?_ | refine blk_alloc ?_ _)); refine blk_put (cs := #[.int .i64 0, .int .i64 0, .int .i64 0, .int .i64 0]) ?_ 3 _ rfl; (with_reducible repeat (first | refine blk_drewN ?_ _ | refine blk_drew ?_ | refine blk_alloc ?_ _)); refine blk_put (cs := #[.int .i64 0, .int .i64 0, .int .i64 0, .int .i64 0]) ?_ 2 _ rfl; (with_reducible repeat (first | refine blk_drewN ?_ _ | refine blk_drew ?_ | refine blk_alloc ?_ _)); refine blk_put (cs := #[.int .i64 0, .int .i64 0, .int .i64 0, .int .i64 0]) ?_ 1 _ rfl; (with_reducible repeat (first | refine blk_drewN ?_ _ | refine blk_drew ?_ | refine blk_alloc ?_ _)); refine blk_put (cs := #[.int .i64 0, .int .i64 0, .int .i64 0, .int .i64 0]) ?_ 0 _ rfl; (with_reducible repeat (first | refine blk_drewN ?_ _ | refine blk_drew ?_ | refine blk_alloc ?_ _)); exact BK252.out) Try.underlying26 rfl (by kernel_rfl)) rfl ?_
        exact ⟨q177_, q75_⟩
      · replace c21 := Bool.eq_false_iff.mpr c21
        subst c21
        have H1 : ((tilefarmref2_Empty.f a0_0 a0_1 a0_2 a0_3).bind fun t255 => (if t255 = true then (some (a1_0, a1_1, a1_2, a1_3)) else ((tilefarmref2_Empty.f a1_0 a1_1 a1_2 a1_3).bind fun t256 => (if t256 = true then (some (a0_0, a0_1, a0_2, a0_3)) else (some (mn a0_0 a1_0, mn a0_1 a1_1, mx a0_2 a1_2, mx a0_3 a1_3)))))) = some (r1, r2, r3, r4) := by rw [if_neg (show ¬ (false = true) by decide)] at H; exact H
        clear H
        have H := H1
        clear H1
        replace H := Option.bind_eq_some_iff.mp H
        obtain ⟨t255, A250, H⟩ := H
        replace H : (if t255 = true then (some (a1_0, a1_1, a1_2, a1_3)) else ((tilefarmref2_Empty.f a1_0 a1_1 a1_2 a1_3).bind fun t256 => (if t256 = true then (some (a0_0, a0_1, a0_2, a0_3)) else (some (mn a0_0 a1_0, mn a0_1 a1_1, mx a0_2 a1_2, mx a0_3 a1_3))))) = some (r1, r2, r3, r4) := H
        have A25 := Aside0.mk A250
        clear A250
        by_cases c26 : t255 = true
        · subst c26
          have H1 : (some (a1_0, a1_1, a1_2, a1_3)) = some (r1, r2, r3, r4) := by rw [if_pos rfl] at H; exact H
          clear H
          have H := H1
          clear H1
          simp only [Option.some.injEq, Prod.mk.injEq] at H
          obtain ⟨rfl, rfl, rfl, rfl⟩ := H
          have hnb27 := NB250_251.out
          have hnc27 := NB251_250.out
          have hnb28 := NB250_252.out
          have hnc28 := NB252_250.out
          have hcz29_0 : wc.cell? ⟨gb250, 0, none⟩ = some (.int .i64 a0_0) := (blk_cell BK250.out 0).trans rfl
          have hcz29_1 : wc.cell? ⟨gb250, 1, none⟩ = some (.int .i64 a0_1) := (blk_cell BK250.out 1).trans rfl
          have hcz29_2 : wc.cell? ⟨gb250, 2, none⟩ = some (.int .i64 a0_2) := (blk_cell BK250.out 2).trans rfl
          have hcz29_3 : wc.cell? ⟨gb250, 3, none⟩ = some (.int .i64 a0_3) := (blk_cell BK250.out 3).trans rfl
          have hfz29_0 := blk_frozen BK250.out 0
          have hfz29_1 := blk_frozen BK250.out 1
          have hfz29_2 := blk_frozen BK250.out 2
          have hfz29_3 := blk_frozen BK250.out 3
          go_wp2_with (first | ((with_reducible refine gate_callee (f := 27) rfl ?_); refine goesL_ (some 17) rfl rfl Try.func27 (by kernel_rfl) rfl #[.agg #[.int .i64 a0_0, .int .i64 a0_1, .int .i64 a0_2, .int .i64 a0_3]] rfl q128_ ?_; (with_reducible refine (tilefarmref2_Empty.calls a0_0 a0_1 a0_2 a0_3 true _ A25.out).mono ?_); rintro e w30 ⟨rfl, hb⟩; refine ⟨_, rfl, ?_⟩; have n0_ := Aside0.mk (blk_below (g := gb250) (o := .cells #[.int .i64 a0_0, .int .i64 a0_1, .int .i64 a0_2, .int .i64 a0_3] 26 (0, 0)) q158_ hb); have n1_ := Aside0.mk (blk_below (g := gb251) (o := .cells #[.int .i64 a1_0, .int .i64 a1_1, .int .i64 a1_2, .int .i64 a1_3] 26 (0, 0)) q159_ hb); have n2_ := Aside0.mk (blk_below (g := gb252) (o := .cells #[.int .i64 0, .int .i64 0, .int .i64 0, .int .i64 0] 26 (0, 0)) q160_ hb); have n3_ := Aside0.mk (below_step q75_ hb); clear BK250; clear BK251; clear BK252; clear HB; have BK250 := n0_; have BK251 := n1_; have BK252 := n2_; have HB := n3_; clear n0_ n1_ n2_ n3_; (try clear hb); (try clear hb2); (try clear hk); (try clear hi); have hnb31 := NB251_252.out; have hnc31 := NB252_251.out; have hcz32_0 : w30.cell? ⟨gb251, 0, none⟩ = some (.int .i64 a1_0) := (blk_cell BK251.out 0).trans rfl; have hcz32_1 : w30.cell? ⟨gb251, 1, none⟩ = some (.int .i64 a1_1) := (blk_cell BK251.out 1).trans rfl; have hcz32_2 : w30.cell? ⟨gb251, 2, none⟩ = some (.int .i64 a1_2) := (blk_cell BK251.out 2).trans rfl; have hcz32_3 : w30.cell? ⟨gb251, 3, none⟩ = some (.int .i64 a1_3) := (blk_cell BK251.out 3).trans rfl; have hfz32_0 := blk_frozen BK251.out 0; have hfz32_1 := blk_frozen BK251.out 1; have hfz32_2 := blk_frozen BK251.out 2; have hfz32_3 := blk_frozen BK251.out 3; have hcz33_0 : w30.cell? ⟨gb252, 0, none⟩ = some (.int .i64 0) := (blk_cell BK252.out 0).trans rfl; have hcz33_1 : w30.cell? ⟨gb252, 1, none⟩ = some (.int .i64 0) := (blk_cell BK252.out 1).trans rfl; have hcz33_2 : w30.cell? ⟨gb252, 2, none⟩ = some (.int .i64 0) := (blk_cell BK252.out 2).trans rfl; have hcz33_3 : w30.cell? ⟨gb252, 3, none⟩ = some (.int .i64 0) := (blk_cell BK252.out 3).trans rfl; have hfz33_0 := blk_frozen BK252.out 0; have hfz33_1 := blk_frozen BK252.out 1; have hfz33_2 := blk_frozen BK252.out 2; have hfz33_3 := blk_frozen BK252.out 3))
          refine bodyPost_ret (results_cell_row rfl _ _ gb252 26 #[.int .i64 a1_0, .int .i64 a1_1, .int .i64 a1_2, .int .i64 a1_3] (0, 0) _ rfl (by (with_reducible repeat (first | refine blk_drewN ?_ _ | refine blk_drew ?_ | refine blk_alloc ?_ _)); refine blk_put (cs := #[.int .i64 a1_0, .int .i64 a1_1, .int .i64 a1_2, .int .i64 0]) ?_ 3 _ rfl; (with_reducible repeat (first | refine blk_drewN ?_ _ | refine blk_drew ?_ | refine blk_alloc ?_ _)); refine blk_put (cs := #[.int .i64 a1_0, .int .i64 a1_1, .int .i64 0, .int .i64 0]) ?_ 2 _ rfl; (with_reducible repeat (first | refine blk_drewN ?_ _ | refine blk_drew ?_ | refine blk_alloc ?_ _)); refine blk_put (cs := #[.int .i64 a1_0, .int .i64 0, .int .i64 0, .int .i64 0]) ?_ 1 _ rfl; (with_reducible repeat (first | refine blk_drewN ?_ _ | refine blk_drew ?_ | refine blk_alloc ?_ _)); refine blk_put (cs := #[.int .i64 0, .int .i64 0, .int .i64 0, .int .i64 0]) ?_ 0 _ rfl; (with_reducible repeat (first | refine blk_drewN ?_ _ | refine blk_drew ?_ | refine blk_alloc ?_ _)); exact BK252.out) Try.underlying26 rfl (by kernel_rfl)) rfl ?_
          exact ⟨q177_, q75_⟩
        · replace c26 := Bool.eq_false_iff.mpr c26
          subst c26
          have H1 : ((tilefarmref2_Empty.f a1_0 a1_1 a1_2 a1_3).bind fun t256 => (if t256 = true then (some (a0_0, a0_1, a0_2, a0_3)) else (some (mn a0_0 a1_0, mn a0_1 a1_1, mx a0_2 a1_2, mx a0_3 a1_3)))) = some (r1, r2, r3, r4) := by rw [if_neg (show ¬ (false = true) by decide)] at H; exact H
          clear H
          have H := H1
          clear H1
          replace H := Option.bind_eq_some_iff.mp H
          obtain ⟨t256, A340, H⟩ := H
          replace H : (if t256 = true then (some (a0_0, a0_1, a0_2, a0_3)) else (some (mn a0_0 a1_0, mn a0_1 a1_1, mx a0_2 a1_2, mx a0_3 a1_3))) = some (r1, r2, r3, r4) := H
          have A34 := Aside0.mk A340
          clear A340
          by_cases c35 : t256 = true
          · subst c35
            have H1 : (some (a0_0, a0_1, a0_2, a0_3)) = some (r1, r2, r3, r4) := by rw [if_pos rfl] at H; exact H
            clear H
            have H := H1
            clear H1
            simp only [Option.some.injEq, Prod.mk.injEq] at H
            obtain ⟨rfl, rfl, rfl, rfl⟩ := H
            have hnb36 := NB250_251.out
            have hnc36 := NB251_250.out
            have hnb37 := NB250_252.out
            have hnc37 := NB252_250.out
            have hcz38_0 : wc.cell? ⟨gb250, 0, none⟩ = some (.int .i64 a0_0) := (blk_cell BK250.out 0).trans rfl
            have hcz38_1 : wc.cell? ⟨gb250, 1, none⟩ = some (.int .i64 a0_1) := (blk_cell BK250.out 1).trans rfl
            have hcz38_2 : wc.cell? ⟨gb250, 2, none⟩ = some (.int .i64 a0_2) := (blk_cell BK250.out 2).trans rfl
            have hcz38_3 : wc.cell? ⟨gb250, 3, none⟩ = some (.int .i64 a0_3) := (blk_cell BK250.out 3).trans rfl
            have hfz38_0 := blk_frozen BK250.out 0
            have hfz38_1 := blk_frozen BK250.out 1
            have hfz38_2 := blk_frozen BK250.out 2
            have hfz38_3 := blk_frozen BK250.out 3
            go_wp2_with (first | ((with_reducible refine gate_callee (f := 27) rfl ?_); refine goesL_ (some 17) rfl rfl Try.func27 (by kernel_rfl) rfl #[.agg #[.int .i64 a0_0, .int .i64 a0_1, .int .i64 a0_2, .int .i64 a0_3]] rfl q128_ ?_; (with_reducible refine (tilefarmref2_Empty.calls a0_0 a0_1 a0_2 a0_3 false _ A25.out).mono ?_); rintro e w39 ⟨rfl, hb⟩; refine ⟨_, rfl, ?_⟩; have n0_ := Aside0.mk (blk_below (g := gb250) (o := .cells #[.int .i64 a0_0, .int .i64 a0_1, .int .i64 a0_2, .int .i64 a0_3] 26 (0, 0)) q158_ hb); have n1_ := Aside0.mk (blk_below (g := gb251) (o := .cells #[.int .i64 a1_0, .int .i64 a1_1, .int .i64 a1_2, .int .i64 a1_3] 26 (0, 0)) q159_ hb); have n2_ := Aside0.mk (blk_below (g := gb252) (o := .cells #[.int .i64 0, .int .i64 0, .int .i64 0, .int .i64 0] 26 (0, 0)) q160_ hb); have n3_ := Aside0.mk (below_step q75_ hb); clear BK250; clear BK251; clear BK252; clear HB; have BK250 := n0_; have BK251 := n1_; have BK252 := n2_; have HB := n3_; clear n0_ n1_ n2_ n3_; (try clear hb); (try clear hb2); (try clear hk); (try clear hi); have hnb40 := NB251_252.out; have hnc40 := NB252_251.out; have hcz41_0 : w39.cell? ⟨gb251, 0, none⟩ = some (.int .i64 a1_0) := (blk_cell BK251.out 0).trans rfl; have hcz41_1 : w39.cell? ⟨gb251, 1, none⟩ = some (.int .i64 a1_1) := (blk_cell BK251.out 1).trans rfl; have hcz41_2 : w39.cell? ⟨gb251, 2, none⟩ = some (.int .i64 a1_2) := (blk_cell BK251.out 2).trans rfl; have hcz41_3 : w39.cell? ⟨gb251, 3, none⟩ = some (.int .i64 a1_3) := (blk_cell BK251.out 3).trans rfl; have hfz41_0 := blk_frozen BK251.out 0; have hfz41_1 := blk_frozen BK251.out 1; have hfz41_2 := blk_frozen BK251.out 2; have hfz41_3 := blk_frozen BK251.out 3) | ((with_reducible refine gate_callee (f := 27) rfl ?_); refine goesL_ (some 21) rfl rfl Try.func27 (by kernel_rfl) rfl #[.agg #[.int .i64 a1_0, .int .i64 a1_1, .int .i64 a1_2, .int .i64 a1_3]] rfl q128_ ?_; (with_reducible refine (tilefarmref2_Empty.calls a1_0 a1_1 a1_2 a1_3 true _ A34.out).mono ?_); rintro e w42 ⟨rfl, hb⟩; refine ⟨_, rfl, ?_⟩; have n0_ := Aside0.mk (blk_below (g := gb250) (o := .cells #[.int .i64 a0_0, .int .i64 a0_1, .int .i64 a0_2, .int .i64 a0_3] 26 (0, 0)) q158_ hb); have n1_ := Aside0.mk (blk_below (g := gb251) (o := .cells #[.int .i64 a1_0, .int .i64 a1_1, .int .i64 a1_2, .int .i64 a1_3] 26 (0, 0)) q159_ hb); have n2_ := Aside0.mk (blk_below (g := gb252) (o := .cells #[.int .i64 0, .int .i64 0, .int .i64 0, .int .i64 0] 26 (0, 0)) q160_ hb); have n3_ := Aside0.mk (below_step q75_ hb); clear BK250; clear BK251; clear BK252; clear HB; have BK250 := n0_; have BK251 := n1_; have BK252 := n2_; have HB := n3_; clear n0_ n1_ n2_ n3_; (try clear hb); (try clear hb2); (try clear hk); (try clear hi); have hcz43_0 : w42.cell? ⟨gb250, 0, none⟩ = some (.int .i64 a0_0) := (blk_cell BK250.out 0).trans rfl; have hcz43_1 : w42.cell? ⟨gb250, 1, none⟩ = some (.int .i64 a0_1) := (blk_cell BK250.out 1).trans rfl; have hcz43_2 : w42.cell? ⟨gb250, 2, none⟩ = some (.int .i64 a0_2) := (blk_cell BK250.out 2).trans rfl; have hcz43_3 : w42.cell? ⟨gb250, 3, none⟩ = some (.int .i64 a0_3) := (blk_cell BK250.out 3).trans rfl; have hfz43_0 := blk_frozen BK250.out 0; have hfz43_1 := blk_frozen BK250.out 1; have hfz43_2 := blk_frozen BK250.out 2; have hfz43_3 := blk_frozen BK250.out 3; have hcz44_0 : w42.cell? ⟨gb252, 0, none⟩ = some (.int .i64 0) := (blk_cell BK252.out 0).trans rfl; have hcz44_1 : w42.cell? ⟨gb252, 1, none⟩ = some (.int .i64 0) := (blk_cell BK252.out 1).trans rfl; have hcz44_2 : w42.cell? ⟨gb252, 2, none⟩ = some (.int .i64 0) := (blk_cell BK252.out 2).trans rfl; have hcz44_3 : w42.cell? ⟨gb252, 3, none⟩ = some (.int .i64 0) := (blk_cell BK252.out 3).trans rfl; have hfz44_0 := blk_frozen BK252.out 0; have hfz44_1 := blk_frozen BK252.out 1; have hfz44_2 := blk_frozen BK252.out 2; have hfz44_3 := blk_frozen BK252.out 3))
            refine bodyPost_ret (results_cell_row rfl _ _ gb252 26 #[.int .i64 a0_0, .int .i64 a0_1, .int .i64 a0_2, .int .i64 a0_3] (0, 0) _ rfl (by (with_reducible repeat (first | refine blk_drewN ?_ _ | refine blk_drew ?_ | refine blk_alloc ?_ _)); refine blk_put (cs := #[.int .i64 a0_0, .int .i64 a0_1, .int .i64 a0_2, .int .i64 0]) ?_ 3 _ rfl; (with_reducible repeat (first | refine blk_drewN ?_ _ | refine blk_drew ?_ | refine blk_alloc ?_ _)); refine blk_put (cs := #[.int .i64 a0_0, .int .i64 a0_1, .int .i64 0, .int .i64 0]) ?_ 2 _ rfl; (with_reducible repeat (first | refine blk_drewN ?_ _ | refine blk_drew ?_ | refine blk_alloc ?_ _)); refine blk_put (cs := #[.int .i64 a0_0, .int .i64 0, .int .i64 0, .int .i64 0]) ?_ 1 _ rfl; (with_reducible repeat (first | refine blk_drewN ?_ _ | refine blk_drew ?_ | refine blk_alloc ?_ _)); refine blk_put (cs := #[.int .i64 0, .int .i64 0, .int .i64 0, .int .i64 0]) ?_ 0 _ rfl; (with_reducible repeat (first | refine blk_drewN ?_ _ | refine blk_drew ?_ | refine blk_alloc ?_ _)); exact BK252.out) Try.underlying26 rfl (by kernel_rfl)) rfl ?_
            exact ⟨q177_, q75_⟩
          · replace c35 := Bool.eq_false_iff.mpr c35
            subst c35
            have H1 : (some (mn a0_0 a1_0, mn a0_1 a1_1, mx a0_2 a1_2, mx a0_3 a1_3)) = some (r1, r2, r3, r4) := by rw [if_neg (show ¬ (false = true) by decide)] at H; exact H
            clear H
            have H := H1
            clear H1
            obtain ⟨ji45, hji45⟩ : ∃ j_ : Int, (mn a0_0 a1_0) = j_ := ⟨_, rfl⟩
            replace H : (some (ji45, mn a0_1 a1_1, mx a0_2 a1_2, mx a0_3 a1_3)) = some (r1, r2, r3, r4) := by first | (rw [hji45] at H; exact H) | (simp only [hji45] at H ⊢; exact H)
            (try rw [hji45] at A25)
            (try rw [hji45] at A34)
            have hji45_ : (if a1_0 < a0_0 then a1_0 else a0_0) = ji45 := hji45
            obtain ⟨ji46, hji46⟩ : ∃ j_ : Int, (mn a0_1 a1_1) = j_ := ⟨_, rfl⟩
            replace H : (some (ji45, ji46, mx a0_2 a1_2, mx a0_3 a1_3)) = some (r1, r2, r3, r4) := by first | (rw [hji46] at H; exact H) | (simp only [hji46] at H ⊢; exact H)
            (try rw [hji46] at A25)
            (try rw [hji46] at A34)
            have hji46_ : (if a1_1 < a0_1 then a1_1 else a0_1) = ji46 := hji46
            obtain ⟨ji47, hji47⟩ : ∃ j_ : Int, (mx a0_2 a1_2) = j_ := ⟨_, rfl⟩
            replace H : (some (ji45, ji46, ji47, mx a0_3 a1_3)) = some (r1, r2, r3, r4) := by first | (rw [hji47] at H; exact H) | (simp only [hji47] at H ⊢; exact H)
            (try rw [hji47] at A25)
            (try rw [hji47] at A34)
            have hji47_ : (if a0_2 < a1_2 then a1_2 else a0_2) = ji47 := hji47
            obtain ⟨ji48, hji48⟩ : ∃ j_ : Int, (mx a0_3 a1_3) = j_ := ⟨_, rfl⟩
            replace H : (some (ji45, ji46, ji47, ji48)) = some (r1, r2, r3, r4) := by first | (rw [hji48] at H; exact H) | (simp only [hji48] at H ⊢; exact H)
            (try rw [hji48] at A25)
            (try rw [hji48] at A34)
            have hji48_ : (if a0_3 < a1_3 then a1_3 else a0_3) = ji48 := hji48
            simp only [Option.some.injEq, Prod.mk.injEq] at H
            obtain ⟨rfl, rfl, rfl, rfl⟩ := H
            have hnb49 := NB250_251.out
            have hnc49 := NB251_250.out
            have hnb50 := NB250_252.out
            have hnc50 := NB252_250.out
            have hcz51_0 : wc.cell? ⟨gb250, 0, none⟩ = some (.int .i64 a0_0) := (blk_cell BK250.out 0).trans rfl
            have hcz51_1 : wc.cell? ⟨gb250, 1, none⟩ = some (.int .i64 a0_1) := (blk_cell BK250.out 1).trans rfl
            have hcz51_2 : wc.cell? ⟨gb250, 2, none⟩ = some (.int .i64 a0_2) := (blk_cell BK250.out 2).trans rfl
            have hcz51_3 : wc.cell? ⟨gb250, 3, none⟩ = some (.int .i64 a0_3) := (blk_cell BK250.out 3).trans rfl
            have hfz51_0 := blk_frozen BK250.out 0
            have hfz51_1 := blk_frozen BK250.out 1
            have hfz51_2 := blk_frozen BK250.out 2
            have hfz51_3 := blk_frozen BK250.out 3
            go_wp2_with (first | ((with_reducible refine gate_callee (f := 27) rfl ?_); refine goesL_ (some 17) rfl rfl Try.func27 (by kernel_rfl) rfl #[.agg #[.int .i64 a0_0, .int .i64 a0_1, .int .i64 a0_2, .int .i64 a0_3]] rfl q128_ ?_; (with_reducible refine (tilefarmref2_Empty.calls a0_0 a0_1 a0_2 a0_3 false _ A25.out).mono ?_); rintro e w52 ⟨rfl, hb⟩; refine ⟨_, rfl, ?_⟩; have n0_ := Aside0.mk (blk_below (g := gb250) (o := .cells #[.int .i64 a0_0, .int .i64 a0_1, .int .i64 a0_2, .int .i64 a0_3] 26 (0, 0)) q158_ hb); have n1_ := Aside0.mk (blk_below (g := gb251) (o := .cells #[.int .i64 a1_0, .int .i64 a1_1, .int .i64 a1_2, .int .i64 a1_3] 26 (0, 0)) q159_ hb); have n2_ := Aside0.mk (blk_below (g := gb252) (o := .cells #[.int .i64 0, .int .i64 0, .int .i64 0, .int .i64 0] 26 (0, 0)) q160_ hb); have n3_ := Aside0.mk (below_step q75_ hb); clear BK250; clear BK251; clear BK252; clear HB; have BK250 := n0_; have BK251 := n1_; have BK252 := n2_; have HB := n3_; clear n0_ n1_ n2_ n3_; (try clear hb); (try clear hb2); (try clear hk); (try clear hi); have hnb53 := NB251_252.out; have hnc53 := NB252_251.out; have hcz54_0 : w52.cell? ⟨gb251, 0, none⟩ = some (.int .i64 a1_0) := (blk_cell BK251.out 0).trans rfl; have hcz54_1 : w52.cell? ⟨gb251, 1, none⟩ = some (.int .i64 a1_1) := (blk_cell BK251.out 1).trans rfl; have hcz54_2 : w52.cell? ⟨gb251, 2, none⟩ = some (.int .i64 a1_2) := (blk_cell BK251.out 2).trans rfl; have hcz54_3 : w52.cell? ⟨gb251, 3, none⟩ = some (.int .i64 a1_3) := (blk_cell BK251.out 3).trans rfl; have hfz54_0 := blk_frozen BK251.out 0; have hfz54_1 := blk_frozen BK251.out 1; have hfz54_2 := blk_frozen BK251.out 2; have hfz54_3 := blk_frozen BK251.out 3) | ((with_reducible refine gate_callee (f := 27) rfl ?_); refine goesL_ (some 21) rfl rfl Try.func27 (by kernel_rfl) rfl #[.agg #[.int .i64 a1_0, .int .i64 a1_1, .int .i64 a1_2, .int .i64 a1_3]] rfl q128_ ?_; (with_reducible refine (tilefarmref2_Empty.calls a1_0 a1_1 a1_2 a1_3 false _ A34.out).mono ?_); rintro e w55 ⟨rfl, hb⟩; refine ⟨_, rfl, ?_⟩; have n0_ := Aside0.mk (blk_below (g := gb250) (o := .cells #[.int .i64 a0_0, .int .i64 a0_1, .int .i64 a0_2, .int .i64 a0_3] 26 (0, 0)) q158_ hb); have n1_ := Aside0.mk (blk_below (g := gb251) (o := .cells #[.int .i64 a1_0, .int .i64 a1_1, .int .i64 a1_2, .int .i64 a1_3] 26 (0, 0)) q159_ hb); have n2_ := Aside0.mk (blk_below (g := gb252) (o := .cells #[.int .i64 0, .int .i64 0, .int .i64 0, .int .i64 0] 26 (0, 0)) q160_ hb); have n3_ := Aside0.mk (below_step q75_ hb); clear BK250; clear BK251; clear BK252; clear HB; have BK250 := n0_; have BK251 := n1_; have BK252 := n2_; have HB := n3_; clear n0_ n1_ n2_ n3_; (try clear hb); (try clear hb2); (try clear hk); (try clear hi); have hcz56_0 : w55.cell? ⟨gb250, 0, none⟩ = some (.int .i64 a0_0) := (blk_cell BK250.out 0).trans rfl; have hcz56_1 : w55.cell? ⟨gb250, 1, none⟩ = some (.int .i64 a0_1) := (blk_cell BK250.out 1).trans rfl; have hcz56_2 : w55.cell? ⟨gb250, 2, none⟩ = some (.int .i64 a0_2) := (blk_cell BK250.out 2).trans rfl; have hcz56_3 : w55.cell? ⟨gb250, 3, none⟩ = some (.int .i64 a0_3) := (blk_cell BK250.out 3).trans rfl; have hfz56_0 := blk_frozen BK250.out 0; have hfz56_1 := blk_frozen BK250.out 1; have hfz56_2 := blk_frozen BK250.out 2; have hfz56_3 := blk_frozen BK250.out 3; have hcz57_0 : w55.cell? ⟨gb251, 0, none⟩ = some (.int .i64 a1_0) := (blk_cell BK251.out 0).trans rfl; have hcz57_1 : w55.cell? ⟨gb251, 1, none⟩ = some (.int .i64 a1_1) := (blk_cell BK251.out 1).trans rfl; have hcz57_2 : w55.cell? ⟨gb251, 2, none⟩ = some (.int .i64 a1_2) := (blk_cell BK251.out 2).trans rfl; have hcz57_3 : w55.cell? ⟨gb251, 3, none⟩ = some (.int .i64 a1_3) := (blk_cell BK251.out 3).trans rfl; have hfz57_0 := blk_frozen BK251.out 0; have hfz57_1 := blk_frozen BK251.out 1; have hfz57_2 := blk_frozen BK251.out 2; have hfz57_3 := blk_frozen BK251.out 3; have hcz58_0 : w55.cell? ⟨gb252, 0, none⟩ = some (.int .i64 0) := (blk_cell BK252.out 0).trans rfl; have hcz58_1 : w55.cell? ⟨gb252, 1, none⟩ = some (.int .i64 0) := (blk_cell BK252.out 1).trans rfl; have hcz58_2 : w55.cell? ⟨gb252, 2, none⟩ = some (.int .i64 0) := (blk_cell BK252.out 2).trans rfl; have hcz58_3 : w55.cell? ⟨gb252, 3, none⟩ = some (.int .i64 0) := (blk_cell BK252.out 3).trans rfl; have hfz58_0 := blk_frozen BK252.out 0; have hfz58_1 := blk_frozen BK252.out 1; have hfz58_2 := blk_frozen BK252.out 2; have hfz58_3 := blk_frozen BK252.out 3))
            refine bodyPost_ret (results_cell_row rfl _ _ gb252 26 #[.int .i64 ji45, .int .i64 ji46, .int .i64 ji47, .int .i64 ji48] (0, 0) _ rfl (by (with_reducible repeat (first | refine blk_drewN ?_ _ | refine blk_drew ?_ | refine blk_alloc ?_ _)); refine blk_put (cs := #[.int .i64 ji45, .int .i64 ji46, .int .i64 ji47, .int .i64 0]) ?_ 3 _ rfl; (with_reducible repeat (first | refine blk_drewN ?_ _ | refine blk_drew ?_ | refine blk_alloc ?_ _)); refine blk_put (cs := #[.int .i64 ji45, .int .i64 ji46, .int .i64 0, .int .i64 0]) ?_ 2 _ rfl; (with_reducible repeat (first | refine blk_drewN ?_ _ | refine blk_drew ?_ | refine blk_alloc ?_ _)); refine blk_put (cs := #[.int .i64 ji45, .int .i64 0, .int .i64 0, .int .i64 0]) ?_ 1 _ rfl; (with_reducible repeat (first | refine blk_drewN ?_ _ | refine blk_drew ?_ | refine blk_alloc ?_ _)); refine blk_put (cs := #[.int .i64 0, .int .i64 0, .int .i64 0, .int .i64 0]) ?_ 0 _ rfl; (with_reducible repeat (first | refine blk_drewN ?_ _ | refine blk_drew ?_ | refine blk_alloc ?_ _)); exact BK252.out) Try.underlying26 rfl (by kernel_rfl)) rfl ?_
            exact ⟨by first | rfl | (simp [errW_none, errW_some] <;> rfl) | (simp only [← hji45, ← hji46, ← hji47, ← hji48]; first | rfl | (simp [errW_none, errW_some] <;> rfl)) | (simp [*, errW_none, errW_some] <;> rfl), q75_⟩


def tilefarmref2_Full.f (a0_0 : Int) (a0_1 : Int) (a0_2 : Int) (a0_3 : Int) : Option (Bool) := (tilefarmref2_Valid.f a0_0 a0_1 a0_2 a0_3).bind fun t258 => (if t258 = true then ((tilefarmref2_Empty.f a0_0 a0_1 a0_2 a0_3).bind fun t259 => (some (!t259))) else (some false))
set_option maxHeartbeats 8000000 in
set_option maxRecDepth 100000 in
theorem tilefarmref2_Full.calls (a0_0 : Int) (a0_1 : Int) (a0_2 : Int) (a0_3 : Int) (r : Bool) (w : World) (h : tilefarmref2_Full.f a0_0 a0_1 a0_2 a0_3 = some r) :
    Calls Try.prog 35 #[.agg #[.int .i64 a0_0, .int .i64 a0_1, .int .i64 a0_2, .int .i64 a0_3]] w fun e w' => e = .returned (.bool r) ∧ Below w.heap.size w w' := by
  have hu26 := Try.underlying26
  have HB := Aside0.mk (Below.refl w.heap.size w)
  have H : ((tilefarmref2_Valid.f a0_0 a0_1 a0_2 a0_3).bind fun t258 => (if t258 = true then ((tilefarmref2_Empty.f a0_0 a0_1 a0_2 a0_3).bind fun t259 => (some (!t259))) else (some false))) = some r := h
  clear h
  replace H := Option.bind_eq_some_iff.mp H
  obtain ⟨t258, A20, H⟩ := H
  replace H : (if t258 = true then ((tilefarmref2_Empty.f a0_0 a0_1 a0_2 a0_3).bind fun t259 => (some (!t259))) else (some false)) = some r := H
  have A2 := Aside0.mk A20
  clear A20
  by_cases c3 : t258 = true
  · subst c3
    have H1 : ((tilefarmref2_Empty.f a0_0 a0_1 a0_2 a0_3).bind fun t259 => (some (!t259))) = some r := by rw [if_pos rfl] at H; exact H
    clear H
    have H := H1
    clear H1
    replace H := Option.bind_eq_some_iff.mp H
    obtain ⟨t259, A40, H⟩ := H
    replace H : (some (!t259)) = some r := H
    have A4 := Aside0.mk A40
    clear A40
    obtain rfl := Option.some.inj H
    go_enter Try.func35, Try.ntmps35
    go_wp2_with (first | ((with_reducible refine gate_dst (N := 1) rfl ?_); refine box_event ?hg (N := 1) ?hd (cs := #[.int .i64 a0_0, .int .i64 a0_1, .int .i64 a0_2, .int .i64 a0_3]) (t := 26) ?hr ?_; (case hd => rfl); (case hg => rfl); (case hr => first | (go_simp; done) | (go_simp; rfl)); intro gb257 hg w5 hbox hb; have n0_ := Aside0.mk (below_step q129_ hb); have n1_ := Aside0.mk (hbox); have n2_ := Aside0.mk ((q104_ : w.heap.size ≤ gb257)); have n3_ := Aside0.mk ((q104_ : w.heap.size ≤ gb257)); clear HB; have HB := n0_; have BK257 := n1_; have GW257 := n2_; have GE257 := n3_; clear n0_ n1_ n2_ n3_; clear hb hbox hg; have hcz6_0 : w5.cell? ⟨gb257, 0, none⟩ = some (.int .i64 a0_0) := (blk_cell BK257.out 0).trans rfl; have hcz6_1 : w5.cell? ⟨gb257, 1, none⟩ = some (.int .i64 a0_1) := (blk_cell BK257.out 1).trans rfl; have hcz6_2 : w5.cell? ⟨gb257, 2, none⟩ = some (.int .i64 a0_2) := (blk_cell BK257.out 2).trans rfl; have hcz6_3 : w5.cell? ⟨gb257, 3, none⟩ = some (.int .i64 a0_3) := (blk_cell BK257.out 3).trans rfl; have hfz6_0 := blk_frozen BK257.out 0; have hfz6_1 := blk_frozen BK257.out 1; have hfz6_2 := blk_frozen BK257.out 2; have hfz6_3 := blk_frozen BK257.out 3) | ((with_reducible refine gate_callee (f := 9) rfl ?_); refine goesL_ (some 4) rfl rfl Try.func9 (by kernel_rfl) rfl #[.agg #[.int .i64 a0_0, .int .i64 a0_1, .int .i64 a0_2, .int .i64 a0_3]] rfl q128_ ?_; (with_reducible refine (tilefarmref2_Valid.calls a0_0 a0_1 a0_2 a0_3 true _ A2.out).mono ?_); rintro e w7 ⟨rfl, hb⟩; refine ⟨_, rfl, ?_⟩; have n0_ := Aside0.mk (blk_below (g := gb257) (o := .cells #[.int .i64 a0_0, .int .i64 a0_1, .int .i64 a0_2, .int .i64 a0_3] 26 (0, 0)) q161_ hb); have n1_ := Aside0.mk (below_step q121_ hb); clear BK257; clear HB; have BK257 := n0_; have HB := n1_; clear n0_ n1_; (try clear hb); (try clear hb2); (try clear hk); (try clear hi); have hcz8_0 : w7.cell? ⟨gb257, 0, none⟩ = some (.int .i64 a0_0) := (blk_cell BK257.out 0).trans rfl; have hcz8_1 : w7.cell? ⟨gb257, 1, none⟩ = some (.int .i64 a0_1) := (blk_cell BK257.out 1).trans rfl; have hcz8_2 : w7.cell? ⟨gb257, 2, none⟩ = some (.int .i64 a0_2) := (blk_cell BK257.out 2).trans rfl; have hcz8_3 : w7.cell? ⟨gb257, 3, none⟩ = some (.int .i64 a0_3) := (blk_cell BK257.out 3).trans rfl; have hfz8_0 := blk_frozen BK257.out 0; have hfz8_1 := blk_frozen BK257.out 1; have hfz8_2 := blk_frozen BK257.out 2; have hfz8_3 := blk_frozen BK257.out 3) | (go_at_call 27; (with_reducible refine (tilefarmref2_Empty.calls a0_0 a0_1 a0_2 a0_3 t259 _ A4.out).mono ?_); rintro e w9 ⟨rfl, hb⟩; have n0_ := Aside0.mk (blk_below (g := gb257) (o := .cells #[.int .i64 a0_0, .int .i64 a0_1, .int .i64 a0_2, .int .i64 a0_3] 26 (0, 0)) q161_ hb); have n1_ := Aside0.mk (below_step q121_ hb); clear BK257; clear HB; have BK257 := n0_; have HB := n1_; clear n0_ n1_; (try clear hb); (try clear hb2); (try clear hk); (try clear hi)))
    go_ret
    exact ⟨q177_, q121_⟩
  · replace c3 := Bool.eq_false_iff.mpr c3
    subst c3
    have H1 : (some false) = some r := by rw [if_neg (show ¬ (false = true) by decide)] at H; exact H
    clear H
    have H := H1
    clear H1
    obtain rfl := Option.some.inj H
    go_enter Try.func35, Try.ntmps35
    go_wp2_with (first | ((with_reducible refine gate_dst (N := 1) rfl ?_); refine box_event ?hg (N := 1) ?hd (cs := #[.int .i64 a0_0, .int .i64 a0_1, .int .i64 a0_2, .int .i64 a0_3]) (t := 26) ?hr ?_; (case hd => rfl); (case hg => rfl); (case hr => first | (go_simp; done) | (go_simp; rfl)); intro gb257 hg w10 hbox hb; have n0_ := Aside0.mk (below_step q129_ hb); have n1_ := Aside0.mk (hbox); have n2_ := Aside0.mk ((q104_ : w.heap.size ≤ gb257)); have n3_ := Aside0.mk ((q104_ : w.heap.size ≤ gb257)); clear HB; have HB := n0_; have BK257 := n1_; have GW257 := n2_; have GE257 := n3_; clear n0_ n1_ n2_ n3_; clear hb hbox hg; have hcz11_0 : w10.cell? ⟨gb257, 0, none⟩ = some (.int .i64 a0_0) := (blk_cell BK257.out 0).trans rfl; have hcz11_1 : w10.cell? ⟨gb257, 1, none⟩ = some (.int .i64 a0_1) := (blk_cell BK257.out 1).trans rfl; have hcz11_2 : w10.cell? ⟨gb257, 2, none⟩ = some (.int .i64 a0_2) := (blk_cell BK257.out 2).trans rfl; have hcz11_3 : w10.cell? ⟨gb257, 3, none⟩ = some (.int .i64 a0_3) := (blk_cell BK257.out 3).trans rfl; have hfz11_0 := blk_frozen BK257.out 0; have hfz11_1 := blk_frozen BK257.out 1; have hfz11_2 := blk_frozen BK257.out 2; have hfz11_3 := blk_frozen BK257.out 3) | ((with_reducible refine gate_callee (f := 9) rfl ?_); refine goesL_ (some 4) rfl rfl Try.func9 (by kernel_rfl) rfl #[.agg #[.int .i64 a0_0, .int .i64 a0_1, .int .i64 a0_2, .int .i64 a0_3]] rfl q128_ ?_; (with_reducible refine (tilefarmref2_Valid.calls a0_0 a0_1 a0_2 a0_3 false _ A2.out).mono ?_); rintro e w12 ⟨rfl, hb⟩; refine ⟨_, rfl, ?_⟩; have n0_ := Aside0.mk (blk_below (g := gb257) (o := .cells #[.int .i64 a0_0, .int .i64 a0_1, .int .i64 a0_2, .int .i64 a0_3] 26 (0, 0)) q161_ hb); have n1_ := Aside0.mk (below_step q121_ hb); clear BK257; clear HB; have BK257 := n0_; have HB := n1_; clear n0_ n1_; (try clear hb); (try clear hb2); (try clear hk); (try clear hi)))
    go_ret
    exact ⟨q177_, q121_⟩


def tilefarmref2_Outset.l0 : Nat → Int → Int → Int → Int → List Int → Int → Int → Int → Int → Int → Int → Option (Int × Int × Int × Int)
  | 0, _, _, _, _, _, _, _, _, _, _, _ => none
  | k + 1, x1, x2, x3, x4, x18, x19, x20, x261000, x261001, x261002, x261003 => if x20 < x19 then (if 0 ≤ x20 then (if x20 < (x18.length : Int) then (if (rd x18 x20) < 0 then (some (0, 0, 0, 0)) else (if (rd x18 x20) > 1048576 then (some (0, 0, 0, 0)) else (tilefarmref2_Outset.l0 k x1 x2 x3 x4 x18 x19 (wrap64 (x20 + 1)) x261000 x261001 x261002 x261003))) else (none)) else (none)) else ((tilefarmref2_Full.f x261000 x261001 x261002 x261003).bind fun t267 => (if t267 = true then ((tilefarmref2_Valid.f (wrap64 (x261000 - x1)) (wrap64 (x261001 - x2)) (wrap64 (x261002 + x3)) (wrap64 (x261003 + x4))).bind fun t268 => (if t268 = true then (some (wrap64 (x261000 - x1), wrap64 (x261001 - x2), wrap64 (x261002 + x3), wrap64 (x261003 + x4))) else (some (0, 0, 0, 0)))) else (some (0, 0, 0, 0))))
def tilefarmref2_Outset.f (k : Nat) (a0_0 : Int) (a0_1 : Int) (a0_2 : Int) (a0_3 : Int) (a1 : Int) (a2 : Int) (a3 : Int) (a4 : Int) : Option (Int × Int × Int × Int) := (some (([a1, a2, a3, a4] : List Int) : List Int)).bind fun y262 => (tilefarmref2_Outset.l0 k a1 a2 a3 a4 y262 (y262.length : Int) 0 a0_0 a0_1 a0_2 a0_3)
theorem tilefarmref2_Outset.mono_l : ∀ k, (∀ y0 y1 y2 y3 y4 y5 y6 y7 y8 y9 y10, LeO (tilefarmref2_Outset.l0 k y0 y1 y2 y3 y4 y5 y6 y7 y8 y9 y10) (tilefarmref2_Outset.l0 (k + 1) y0 y1 y2 y3 y4 y5 y6 y7 y8 y9 y10))
  | 0 => fun _ _ _ _ _ _ _ _ _ _ _ r h => by simp [tilefarmref2_Outset.l0] at h
  | k + 1 => by
    have ih0 := tilefarmref2_Outset.mono_l k
    · intro y0 y1 y2 y3 y4 y5 y6 y7 y8 y9 y10
      unfold tilefarmref2_Outset.l0
      repeat' first
      | (with_reducible exact ih0 _ _ _ _ _ _ _ _ _ _ _)
      | (with_reducible exact LeO.refl _)
      | (with_reducible exact LeO.none _)
      | (with_reducible refine LeO.ite ?_ ?_)
      | (with_reducible refine LeO.bind ?_ (fun _ => ?_))
      | exact ih0 _ _ _ _ _ _ _ _ _ _ _
      | exact LeO.none _
      | refine LeO.ite ?_ ?_
      | refine LeO.bind ?_ (fun _ => ?_)
theorem tilefarmref2_Outset.mono : ∀ a0 a1 a2 a3 a4 a5 a6 a7 k, LeO (tilefarmref2_Outset.f k a0 a1 a2 a3 a4 a5 a6 a7) (tilefarmref2_Outset.f (k + 1) a0 a1 a2 a3 a4 a5 a6 a7) := by
  intro a0 a1 a2 a3 a4 a5 a6 a7 k
  have ih0 := tilefarmref2_Outset.mono_l k
  unfold tilefarmref2_Outset.f
  repeat' first
      | (with_reducible exact ih0 _ _ _ _ _ _ _ _ _ _ _)
      | (with_reducible exact LeO.refl _)
      | (with_reducible exact LeO.none _)
      | (with_reducible refine LeO.ite ?_ ?_)
      | (with_reducible refine LeO.bind ?_ (fun _ => ?_))
      | exact ih0 _ _ _ _ _ _ _ _ _ _ _
      | exact LeO.none _
      | refine LeO.ite ?_ ?_
      | refine LeO.bind ?_ (fun _ => ?_)
set_option maxHeartbeats 8000000 in
set_option maxRecDepth 100000 in
theorem tilefarmref2_Outset.calls (k : Nat) (a0_0 : Int) (a0_1 : Int) (a0_2 : Int) (a0_3 : Int) (a1 : Int) (a2 : Int) (a3 : Int) (a4 : Int) (r1 : Int) (r2 : Int) (r3 : Int) (r4 : Int) (w : World) (h : tilefarmref2_Outset.f k a0_0 a0_1 a0_2 a0_3 a1 a2 a3 a4 = some (r1, r2, r3, r4)) :
    Calls Try.prog 33 #[.agg #[.int .i64 a0_0, .int .i64 a0_1, .int .i64 a0_2, .int .i64 a0_3], .int .i64 a1, .int .i64 a2, .int .i64 a3, .int .i64 a4] w fun e w' => e = .returned (.agg #[.int .i64 r1, .int .i64 r2, .int .i64 r3, .int .i64 r4]) ∧ Below w.heap.size w w' := by
  have hu26 := Try.underlying26
  have HB := Aside0.mk (Below.refl w.heap.size w)
  have H : ((some (([a1, a2, a3, a4] : List Int) : List Int)).bind fun y262 => (tilefarmref2_Outset.l0 k a1 a2 a3 a4 y262 (y262.length : Int) 0 a0_0 a0_1 a0_2 a0_3)) = some (r1, r2, r3, r4) := h
  clear h
  obtain ⟨y262, hy262⟩ : ∃ y_ : List Int, y_ = (([a1, a2, a3, a4] : List Int)) := ⟨_, rfl⟩
  replace H : (tilefarmref2_Outset.l0 k a1 a2 a3 a4 y262 (y262.length : Int) 0 a0_0 a0_1 a0_2 a0_3) = some (r1, r2, r3, r4) := by first | (rw [hy262]; with_reducible exact H) | (have H2_ := (Option.bind_some _ _).symm.trans H; rw [hy262]; with_reducible exact H2_) | (have H2_ := (Option.bind_some _ _).symm.trans H; with_reducible exact H2_) | with_reducible exact H | (rw [hy262]; exact H) | exact H
  have Ny262 := Aside0.mk hy262
  clear hy262
  have H' := Aside0.mk H
  clear H
  go_enter Try.func33, Try.ntmps33
  go_wp2_with (first | ((with_reducible refine gate_dst (N := 5) rfl ?_); refine box_event ?hg (N := 5) ?hd (cs := #[.int .i64 a0_0, .int .i64 a0_1, .int .i64 a0_2, .int .i64 a0_3]) (t := 26) ?hr ?_; (case hd => rfl); (case hg => rfl); (case hr => first | (go_simp; done) | (go_simp; rfl)); intro gb260 hg w6 hbox hb; have n0_ := Aside0.mk (below_step q129_ hb); have n1_ := Aside0.mk (hbox); have n2_ := Aside0.mk ((q104_ : w.heap.size ≤ gb260)); have n3_ := Aside0.mk ((q104_ : w.heap.size ≤ gb260)); clear HB; have HB := n0_; have BK260 := n1_; have GW260 := n2_; have GE260 := n3_; clear n0_ n1_ n2_ n3_; clear hb hbox hg) | ((with_reducible refine gate_dst (N := 10) rfl ?_); refine box_event ?hg (N := 10) ?hd (cs := #[.int .i64 0, .int .i64 0, .int .i64 0, .int .i64 0]) (t := 26) ?hr ?_; (case hd => rfl); (case hg => rfl); (case hr => first | (go_simp; done) | (go_simp; rfl)); intro gb261 hg w7 hbox hb; have n0_ := Aside0.mk (blk_below (g := gb260) (o := .cells #[.int .i64 a0_0, .int .i64 a0_1, .int .i64 a0_2, .int .i64 a0_3] 26 (0, 0)) q162_ hb); have n1_ := Aside0.mk (below_step q122_ hb); have n2_ := Aside0.mk (hbox); have n3_ := Aside0.mk ((by rw [hg]; exact (below_size q122_) : w.heap.size ≤ gb261)); have n4_ := Aside0.mk ((by rw [hg]; exact (below_size q122_) : w.heap.size ≤ gb261)); have n5_ := Aside0.mk ((q48_ : gb260 ≠ gb261)); have n6_ := Aside0.mk ((q49_ : gb261 ≠ gb260)); clear BK260; clear HB; have BK260 := n0_; have HB := n1_; have BK261 := n2_; have GW261 := n3_; have GE261 := n4_; have NB260_261 := n5_; have NB261_260 := n6_; clear n0_ n1_ n2_ n3_ n4_ n5_ n6_; clear hb hbox hg) | ((with_reducible refine gate_dst (N := 18) rfl ?_); refine Kd.R_lit (Kd.int .i64) _ 3 ?hg (N := 18) ?hd (xs := ([a1, a2, a3, a4] : List Int)) (inner := [.int .i64 a1, .int .i64 a2, .int .i64 a3, .int .i64 a4]) (ok := fun _ => True) (okp := fun _ => True) ?hr ?hp (fun _ hk => hk) trivial (Below.refl _ _) (Nat.le_refl _) (by simp) ?_; (case hd => rfl); (case hg => rfl); (case hr => first | (go_simp; done) | (go_simp; rfl)); (case hp => exact (Reps.one (show Kd.M (Kd.int .i64) _ _ _ a1 [.int .i64 a1] from rfl) (Reps.one (show Kd.M (Kd.int .i64) _ _ _ a2 [.int .i64 a2] from rfl) (Reps.one (show Kd.M (Kd.int .i64) _ _ _ a3 [.int .i64 a3] from rfl) (Reps.one (show Kd.M (Kd.int .i64) _ _ _ a4 [.int .i64 a4] from rfl) (Reps.none _ _)))))); intro v263 w8 ho9 hb hg_ hnew_; clear hg_ hnew_; (first | rw [← Ny262.out] at ho9 | (simp only [Int.reduceToNat] at ho9; rw [← Ny262.out] at ho9)); have n0_ := Aside0.mk (Kd.R_lower ho9 (below_size q97_)); have n1_ := Aside0.mk (blk_below (g := gb260) (o := .cells #[.int .i64 a0_0, .int .i64 a0_1, .int .i64 a0_2, .int .i64 a0_3] 26 (0, 0)) q162_ hb); have n2_ := Aside0.mk (blk_below (g := gb261) (o := .cells #[.int .i64 0, .int .i64 0, .int .i64 0, .int .i64 0] 26 (0, 0)) q163_ hb); have n3_ := Aside0.mk (below_step q97_ hb); clear BK260; clear BK261; clear HB; have HO264 := n0_; have BK260 := n1_; have BK261 := n2_; have HB := n3_; clear n0_ n1_ n2_ n3_; clear hb ho9; obtain ⟨Ao10, co10, eo10⟩ := Kd.R_slice HO264.out; subst eo10))
  go_loopg [20] k (fun kq v20 w' => ∃ (x20_1 : Int) (x262000_1 : Int) (x262001_1 : Int) (x262002_1 : Int) (x262003_1 : Int), v20 = .int .i64 x20_1 ∧ Aside0 (tilefarmref2_Outset.l0 kq a1 a2 a3 a4 y262 (y262.length : Int) x20_1 a0_0 a0_1 a0_2 a0_3 = some (r1, r2, r3, r4)) ∧ Aside0 (kq ≤ k) ∧ Aside0 (Kd.R (Kd.int .i64) 3 w' w.heap.size (fun _ => True) (.slice Ao10 y262.length co10) y262) ∧ Aside0 (w'.heap[gb260]? = some (.cells #[.int .i64 a0_0, .int .i64 a0_1, .int .i64 a0_2, .int .i64 a0_3] 26 (0, 0))) ∧ Aside0 (w'.heap[gb261]? = some (.cells #[.int .i64 x262000_1, .int .i64 x262001_1, .int .i64 x262002_1, .int .i64 x262003_1] 26 (0, 0))) ∧ Aside0 (Below w.heap.size w w'))
  case atStart => exact ⟨(0), (0), (0), (0), (0), q180_, H', ⟨Nat.le_refl _⟩, ⟨by (with_reducible repeat (first | apply Kd.R_alloc | apply Kd.R_drewN | apply Kd.R_drew)); exact HO264.out⟩, ⟨q162_⟩, ⟨q163_⟩, ⟨q97_⟩⟩
  case round =>
    clear H'
    try clear p2
    try clear c3
    obtain ⟨x20_1, x262000_1, x262001_1, x262002_1, x262003_1, rfl, HA, HK1, HO_18, BK260, BK261, HB⟩ := hrel
    cases gk with
    | zero => exact absurd HA.out (by simp [tilefarmref2_Outset.l0])
    | succ k1 =>
      have H := HA.out
      clear HA
      simp only [tilefarmref2_Outset.l0] at H
      by_cases c11 : x20_1 < (y262.length : Int)
      · rw [if_pos c11] at H
        have c11b0 : decide (x20_1 < (y262.length : Int)) = true := decide_eq_true c11
        clear c11
        by_cases c12 : 0 ≤ x20_1
        · rw [if_pos c12] at H
          have c12b0 : decide (0 ≤ x20_1) = true := decide_eq_true c12
          clear c12
          by_cases c13 : x20_1 < (y262.length : Int)
          · rw [if_pos c13] at H
            have c13b0 : decide (x20_1 < (y262.length : Int)) = true := decide_eq_true c13
            clear c13
            by_cases c14 : (rd y262 x20_1) < 0
            · rw [if_pos c14] at H
              have c14b0 : decide ((rd y262 x20_1) < 0) = true := decide_eq_true c14
              clear c14
              simp only [Option.some.injEq, Prod.mk.injEq] at H
              obtain ⟨rfl, rfl, rfl, rfl⟩ := H
              have p265 : 0 ≤ (x20_1 : Int) := of_decide_eq_true q179_
              have q265 : x20_1 < (y262.length : Int) := of_decide_eq_true q179_
              obtain ⟨ad265, e265, hx265_0⟩ := Kd.at_int (Kd.R_reads' HO_18.out).2.2 x20_1 p265 q265
              cases e265
              replace p265 := eq_true p265
              replace q265 := eq_true q265
              have hnb15 := NB261_260.out
              have hnc15 := NB260_261.out
              have hcz16_0 : wr.cell? ⟨gb261, 0, none⟩ = some (.int .i64 x262000_1) := (blk_cell BK261.out 0).trans rfl
              have hcz16_1 : wr.cell? ⟨gb261, 1, none⟩ = some (.int .i64 x262001_1) := (blk_cell BK261.out 1).trans rfl
              have hcz16_2 : wr.cell? ⟨gb261, 2, none⟩ = some (.int .i64 x262002_1) := (blk_cell BK261.out 2).trans rfl
              have hcz16_3 : wr.cell? ⟨gb261, 3, none⟩ = some (.int .i64 x262003_1) := (blk_cell BK261.out 3).trans rfl
              have hfz16_0 := blk_frozen BK261.out 0
              have hfz16_1 := blk_frozen BK261.out 1
              have hfz16_2 := blk_frozen BK261.out 2
              have hfz16_3 := blk_frozen BK261.out 3
              go_wp2
              refine bodyPost_ret (results_cell_row rfl _ _ gb261 26 #[.int .i64 0, .int .i64 0, .int .i64 0, .int .i64 0] (0, 0) _ rfl q3_ Try.underlying26 rfl (by kernel_rfl)) rfl ?_
              exact ⟨q177_, q97_⟩
            · rw [if_neg c14] at H
              have c14b0 : decide ((rd y262 x20_1) < 0) = false := decide_eq_false c14
              clear c14
              by_cases c17 : (rd y262 x20_1) > 1048576
              · rw [if_pos c17] at H
                have c17b0 : decide (1048576 < (rd y262 x20_1)) = true := decide_eq_true c17
                clear c17
                simp only [Option.some.injEq, Prod.mk.injEq] at H
                obtain ⟨rfl, rfl, rfl, rfl⟩ := H
                have p265 : 0 ≤ (x20_1 : Int) := of_decide_eq_true q179_
                have q265 : x20_1 < (y262.length : Int) := of_decide_eq_true q179_
                obtain ⟨ad265, e265, hx265_0⟩ := Kd.at_int (Kd.R_reads' HO_18.out).2.2 x20_1 p265 q265
                cases e265
                replace p265 := eq_true p265
                replace q265 := eq_true q265
                have hnb18 := NB261_260.out
                have hnc18 := NB260_261.out
                have hcz19_0 : wr.cell? ⟨gb261, 0, none⟩ = some (.int .i64 x262000_1) := (blk_cell BK261.out 0).trans rfl
                have hcz19_1 : wr.cell? ⟨gb261, 1, none⟩ = some (.int .i64 x262001_1) := (blk_cell BK261.out 1).trans rfl
                have hcz19_2 : wr.cell? ⟨gb261, 2, none⟩ = some (.int .i64 x262002_1) := (blk_cell BK261.out 2).trans rfl
                have hcz19_3 : wr.cell? ⟨gb261, 3, none⟩ = some (.int .i64 x262003_1) := (blk_cell BK261.out 3).trans rfl
                have hfz19_0 := blk_frozen BK261.out 0
                have hfz19_1 := blk_frozen BK261.out 1
                have hfz19_2 := blk_frozen BK261.out 2
                have hfz19_3 := blk_frozen BK261.out 3
                go_wp2
                refine bodyPost_ret (results_cell_row rfl _ _ gb261 26 #[.int .i64 0, .int .i64 0, .int .i64 0, .int .i64 0] (0, 0) _ rfl q3_ Try.underlying26 rfl (by kernel_rfl)) rfl ?_
                exact ⟨q177_, q97_⟩
              · rw [if_neg c17] at H
                have c17b0 : decide (1048576 < (rd y262 x20_1)) = false := decide_eq_false c17
                clear c17
                have H' := Aside0.mk H
                clear H
                have p265 : 0 ≤ (x20_1 : Int) := of_decide_eq_true q179_
                have q265 : x20_1 < (y262.length : Int) := of_decide_eq_true q179_
                obtain ⟨ad265, e265, hx265_0⟩ := Kd.at_int (Kd.R_reads' HO_18.out).2.2 x20_1 p265 q265
                cases e265
                replace p265 := eq_true p265
                replace q265 := eq_true q265
                go_wp2
                go_roundg k1
                case measure => have := HK1.out; omega
                case rel => exact ⟨(wrap64 (x20_1 + 1)), (x262000_1), (x262001_1), (x262002_1), (x262003_1), q180_, H', ⟨by have := HK1.out; omega⟩, ⟨q171_⟩, ⟨q162_⟩, ⟨q163_⟩, ⟨q97_⟩⟩
          · rw [if_neg c13] at H
            exact absurd H (by simp)
        · rw [if_neg c12] at H
          exact absurd H (by simp)
      · rw [if_neg c11] at H
        have c11b0 : decide (x20_1 < (y262.length : Int)) = false := decide_eq_false c11
        clear c11
        replace H := Option.bind_eq_some_iff.mp H
        obtain ⟨t267, A200, H⟩ := H
        replace H : (if t267 = true then ((tilefarmref2_Valid.f (wrap64 (a0_0 - a1)) (wrap64 (a0_1 - a2)) (wrap64 (a0_2 + a3)) (wrap64 (a0_3 + a4))).bind fun t268 => (if t268 = true then (some (wrap64 (a0_0 - a1), wrap64 (a0_1 - a2), wrap64 (a0_2 + a3), wrap64 (a0_3 + a4))) else (some (0, 0, 0, 0)))) else (some (0, 0, 0, 0))) = some (r1, r2, r3, r4) := H
        have A20 := Aside0.mk A200
        clear A200
        by_cases c21 : t267 = true
        · subst c21
          have H1 : ((tilefarmref2_Valid.f (wrap64 (a0_0 - a1)) (wrap64 (a0_1 - a2)) (wrap64 (a0_2 + a3)) (wrap64 (a0_3 + a4))).bind fun t268 => (if t268 = true then (some (wrap64 (a0_0 - a1), wrap64 (a0_1 - a2), wrap64 (a0_2 + a3), wrap64 (a0_3 + a4))) else (some (0, 0, 0, 0)))) = some (r1, r2, r3, r4) := by rw [if_pos rfl] at H; exact H
          clear H
          have H := H1
          clear H1
          replace H := Option.bind_eq_some_iff.mp H
          obtain ⟨t268, A220, H⟩ := H
          replace H : (if t268 = true then (some (wrap64 (a0_0 - a1), wrap64 (a0_1 - a2), wrap64 (a0_2 + a3), wrap64 (a0_3 + a4))) else (some (0, 0, 0, 0))) = some (r1, r2, r3, r4) := H
          have A22 := Aside0.mk A220
          clear A220
          by_cases c23 : t268 = true
          · subst c23
            have H1 : (some (wrap64 (a0_0 - a1), wrap64 (a0_1 - a2), wrap64 (a0_2 + a3), wrap64 (a0_3 + a4))) = some (r1, r2, r3, r4) := by rw [if_pos rfl] at H; exact H
            clear H
            have H := H1
            clear H1
            simp only [Option.some.injEq, Prod.mk.injEq] at H
            obtain ⟨rfl, rfl, rfl, rfl⟩ := H
            have hnb24 := NB260_261.out
            have hnc24 := NB261_260.out
            have hcz25_0 : wr.cell? ⟨gb260, 0, none⟩ = some (.int .i64 a0_0) := (blk_cell BK260.out 0).trans rfl
            have hcz25_1 : wr.cell? ⟨gb260, 1, none⟩ = some (.int .i64 a0_1) := (blk_cell BK260.out 1).trans rfl
            have hcz25_2 : wr.cell? ⟨gb260, 2, none⟩ = some (.int .i64 a0_2) := (blk_cell BK260.out 2).trans rfl
            have hcz25_3 : wr.cell? ⟨gb260, 3, none⟩ = some (.int .i64 a0_3) := (blk_cell BK260.out 3).trans rfl
            have hfz25_0 := blk_frozen BK260.out 0
            have hfz25_1 := blk_frozen BK260.out 1
            have hfz25_2 := blk_frozen BK260.out 2
            have hfz25_3 := blk_frozen BK260.out 3
            go_wp2_with (first | ((with_reducible refine gate_dst (N := 13) rfl ?_); refine box_event ?hg (N := 13) ?hd (cs := #[.int .i64 0, .int .i64 0, .int .i64 0, .int .i64 0]) (t := 26) ?hr ?_; (case hd => rfl); (case hg => rfl); (case hr => first | (go_simp; done) | (go_simp; rfl)); intro gb266 hg w26 hbox hb; have n0_ := Aside0.mk (Kd.R_below q171_ hb); have n1_ := Aside0.mk (blk_below (g := gb260) (o := .cells #[.int .i64 a0_0, .int .i64 a0_1, .int .i64 a0_2, .int .i64 a0_3] 26 (0, 0)) q162_ hb); have n2_ := Aside0.mk (blk_below (g := gb261) (o := .cells #[.int .i64 x262000_1, .int .i64 x262001_1, .int .i64 x262002_1, .int .i64 x262003_1] 26 (0, 0)) q163_ hb); have n3_ := Aside0.mk (below_step q97_ hb); have n4_ := Aside0.mk (hbox); have n5_ := Aside0.mk ((q69_ : w.heap.size ≤ gb266)); have n6_ := Aside0.mk ((q69_ : w.heap.size ≤ gb266)); have n7_ := Aside0.mk ((q48_ : gb260 ≠ gb266)); have n8_ := Aside0.mk ((q49_ : gb266 ≠ gb260)); have n9_ := Aside0.mk ((q22_ : gb261 ≠ gb266)); have n10_ := Aside0.mk ((q23_ : gb266 ≠ gb261)); clear HO_18; clear BK260; clear BK261; clear HB; have HO_18 := n0_; have BK260 := n1_; have BK261 := n2_; have HB := n3_; have BK266 := n4_; have GW266 := n5_; have GE266 := n6_; have NB260_266 := n7_; have NB266_260 := n8_; have NB261_266 := n9_; have NB266_261 := n10_; clear n0_ n1_ n2_ n3_ n4_ n5_ n6_ n7_ n8_ n9_ n10_; clear hb hbox hg; have hnb27 := NB266_260.out; have hnc27 := NB260_266.out; have hnb28 := NB266_261.out; have hnc28 := NB261_266.out; have hcz29_0 : w26.cell? ⟨gb266, 0, none⟩ = some (.int .i64 0) := (blk_cell BK266.out 0).trans rfl; have hcz29_1 : w26.cell? ⟨gb266, 1, none⟩ = some (.int .i64 0) := (blk_cell BK266.out 1).trans rfl; have hcz29_2 : w26.cell? ⟨gb266, 2, none⟩ = some (.int .i64 0) := (blk_cell BK266.out 2).trans rfl; have hcz29_3 : w26.cell? ⟨gb266, 3, none⟩ = some (.int .i64 0) := (blk_cell BK266.out 3).trans rfl; have hfz29_0 := blk_frozen BK266.out 0; have hfz29_1 := blk_frozen BK266.out 1; have hfz29_2 := blk_frozen BK266.out 2; have hfz29_3 := blk_frozen BK266.out 3; have hcz30_0 : w26.cell? ⟨gb260, 0, none⟩ = some (.int .i64 a0_0) := (blk_cell BK260.out 0).trans rfl; have hcz30_1 : w26.cell? ⟨gb260, 1, none⟩ = some (.int .i64 a0_1) := (blk_cell BK260.out 1).trans rfl; have hcz30_2 : w26.cell? ⟨gb260, 2, none⟩ = some (.int .i64 a0_2) := (blk_cell BK260.out 2).trans rfl; have hcz30_3 : w26.cell? ⟨gb260, 3, none⟩ = some (.int .i64 a0_3) := (blk_cell BK260.out 3).trans rfl; have hfz30_0 := blk_frozen BK260.out 0; have hfz30_1 := blk_frozen BK260.out 1; have hfz30_2 := blk_frozen BK260.out 2; have hfz30_3 := blk_frozen BK260.out 3) | ((with_reducible refine gate_callee (f := 35) rfl ?_); refine goesL_ (some 50) rfl rfl Try.func35 (by kernel_rfl) rfl #[.agg #[.int .i64 a0_0, .int .i64 a0_1, .int .i64 a0_2, .int .i64 a0_3]] rfl q128_ ?_; (with_reducible refine (tilefarmref2_Full.calls a0_0 a0_1 a0_2 a0_3 true _ A20.out).mono ?_); rintro e w31 ⟨rfl, hb⟩; refine ⟨_, rfl, ?_⟩; have n0_ := Aside0.mk (Kd.R_below q20_ hb); have n1_ := Aside0.mk (blk_below (g := gb260) (o := .cells #[.int .i64 a0_0, .int .i64 a0_1, .int .i64 a0_2, .int .i64 a0_3] 26 (0, 0)) q17_ hb); have n2_ := Aside0.mk (blk_below (g := gb261) (o := .cells #[.int .i64 x262000_1, .int .i64 x262001_1, .int .i64 x262002_1, .int .i64 x262003_1] 26 (0, 0)) q18_ hb); have n3_ := Aside0.mk (blk_below (g := gb266) (o := .cells #[.int .i64 (wrap64 (a0_0 - a1)), .int .i64 (wrap64 (a0_1 - a2)), .int .i64 (wrap64 (a0_2 + a3)), .int .i64 (wrap64 (a0_3 + a4))] 26 (0, 0)) q0_ hb); have n4_ := Aside0.mk (below_step q76_ hb); clear HO_18; clear BK260; clear BK261; clear BK266; clear HB; have HO_18 := n0_; have BK260 := n1_; have BK261 := n2_; have BK266 := n3_; have HB := n4_; clear n0_ n1_ n2_ n3_ n4_; (try clear hb); (try clear hb2); (try clear hk); (try clear hi); have hcz32_0 : w31.cell? ⟨gb266, 0, none⟩ = some (.int .i64 (wrap64 (a0_0 - a1))) := (blk_cell BK266.out 0).trans rfl; have hcz32_1 : w31.cell? ⟨gb266, 1, none⟩ = some (.int .i64 (wrap64 (a0_1 - a2))) := (blk_cell BK266.out 1).trans rfl; have hcz32_2 : w31.cell? ⟨gb266, 2, none⟩ = some (.int .i64 (wrap64 (a0_2 + a3))) := (blk_cell BK266.out 2).trans rfl; have hcz32_3 : w31.cell? ⟨gb266, 3, none⟩ = some (.int .i64 (wrap64 (a0_3 + a4))) := (blk_cell BK266.out 3).trans rfl; have hfz32_0 := blk_frozen BK266.out 0; have hfz32_1 := blk_frozen BK266.out 1; have hfz32_2 := blk_frozen BK266.out 2; have hfz32_3 := blk_frozen BK266.out 3) | (go_at_call 9; (with_reducible refine (tilefarmref2_Valid.calls (wrap64 (a0_0 - a1)) (wrap64 (a0_1 - a2)) (wrap64 (a0_2 + a3)) (wrap64 (a0_3 + a4)) true _ A22.out).mono ?_); rintro e w33 ⟨rfl, hb⟩; have n0_ := Aside0.mk (Kd.R_below q171_ hb); have n1_ := Aside0.mk (blk_below (g := gb260) (o := .cells #[.int .i64 a0_0, .int .i64 a0_1, .int .i64 a0_2, .int .i64 a0_3] 26 (0, 0)) q162_ hb); have n2_ := Aside0.mk (blk_below (g := gb261) (o := .cells #[.int .i64 x262000_1, .int .i64 x262001_1, .int .i64 x262002_1, .int .i64 x262003_1] 26 (0, 0)) q163_ hb); have n3_ := Aside0.mk (blk_below (g := gb266) (o := .cells #[.int .i64 (wrap64 (a0_0 - a1)), .int .i64 (wrap64 (a0_1 - a2)), .int .i64 (wrap64 (a0_2 + a3)), .int .i64 (wrap64 (a0_3 + a4))] 26 (0, 0)) (by (with_reducible repeat (first | refine blk_drewN ?_ _ | refine blk_drew ?_ | refine blk_alloc ?_ _)); exact BK266.out) hb); have n4_ := Aside0.mk (below_step q76_ hb); clear HO_18; clear BK260; clear BK261; clear BK266; clear HB; have HO_18 := n0_; have BK260 := n1_; have BK261 := n2_; have BK266 := n3_; have HB := n4_; clear n0_ n1_ n2_ n3_ n4_; (try clear hb); (try clear hb2); (try clear hk); (try clear hi); have hcz34_0 : w33.cell? ⟨gb266, 0, none⟩ = some (.int .i64 (wrap64 (a0_0 - a1))) := (blk_cell BK266.out 0).trans rfl; have hcz34_1 : w33.cell? ⟨gb266, 1, none⟩ = some (.int .i64 (wrap64 (a0_1 - a2))) := (blk_cell BK266.out 1).trans rfl; have hcz34_2 : w33.cell? ⟨gb266, 2, none⟩ = some (.int .i64 (wrap64 (a0_2 + a3))) := (blk_cell BK266.out 2).trans rfl; have hcz34_3 : w33.cell? ⟨gb266, 3, none⟩ = some (.int .i64 (wrap64 (a0_3 + a4))) := (blk_cell BK266.out 3).trans rfl; have hfz34_0 := blk_frozen BK266.out 0; have hfz34_1 := blk_frozen BK266.out 1; have hfz34_2 := blk_frozen BK266.out 2; have hfz34_3 := blk_frozen BK266.out 3; have hcz35_0 : w33.cell? ⟨gb261, 0, none⟩ = some (.int .i64 x262000_1) := (blk_cell BK261.out 0).trans rfl; have hcz35_1 : w33.cell? ⟨gb261, 1, none⟩ = some (.int .i64 x262001_1) := (blk_cell BK261.out 1).trans rfl; have hcz35_2 : w33.cell? ⟨gb261, 2, none⟩ = some (.int .i64 x262002_1) := (blk_cell BK261.out 2).trans rfl; have hcz35_3 : w33.cell? ⟨gb261, 3, none⟩ = some (.int .i64 x262003_1) := (blk_cell BK261.out 3).trans rfl; have hfz35_0 := blk_frozen BK261.out 0; have hfz35_1 := blk_frozen BK261.out 1; have hfz35_2 := blk_frozen BK261.out 2; have hfz35_3 := blk_frozen BK261.out 3))
            refine bodyPost_ret (results_cell_row rfl _ _ gb261 26 #[.int .i64 (wrap64 (a0_0 - a1)), .int .i64 (wrap64 (a0_1 - a2)), .int .i64 (wrap64 (a0_2 + a3)), .int .i64 (wrap64 (a0_3 + a4))] (0, 0) _ rfl (by (with_reducible repeat (first | refine blk_drewN ?_ _ | refine blk_drew ?_ | refine blk_alloc ?_ _)); refine blk_put (cs := #[.int .i64 (wrap64 (a0_0 - a1)), .int .i64 (wrap64 (a0_1 - a2)), .int .i64 (wrap64 (a0_2 + a3)), .int .i64 x262003_1]) ?_ 3 _ rfl; (with_reducible repeat (first | refine blk_drewN ?_ _ | refine blk_drew ?_ | refine blk_alloc ?_ _)); refine blk_put (cs := #[.int .i64 (wrap64 (a0_0 - a1)), .int .i64 (wrap64 (a0_1 - a2)), .int .i64 x262002_1, .int .i64 x262003_1]) ?_ 2 _ rfl; (with_reducible repeat (first | refine blk_drewN ?_ _ | refine blk_drew ?_ | refine blk_alloc ?_ _)); refine blk_put (cs := #[.int .i64 (wrap64 (a0_0 - a1)), .int .i64 x262001_1, .int .i64 x262002_1, .int .i64 x262003_1]) ?_ 1 _ rfl; (with_reducible repeat (first | refine blk_drewN ?_ _ | refine blk_drew ?_ | refine blk_alloc ?_ _)); refine blk_put (cs := #[.int .i64 x262000_1, .int .i64 x262001_1, .int .i64 x262002_1, .int .i64 x262003_1]) ?_ 0 _ rfl; (with_reducible repeat (first | refine blk_drewN ?_ _ | refine blk_drew ?_ | refine blk_alloc ?_ _)); exact BK261.out) Try.underlying26 rfl (by kernel_rfl)) rfl ?_
            exact ⟨q177_, q76_⟩
          · replace c23 := Bool.eq_false_iff.mpr c23
            subst c23
            have H1 : (some (0, 0, 0, 0)) = some (r1, r2, r3, r4) := by rw [if_neg (show ¬ (false = true) by decide)] at H; exact H
            clear H
            have H := H1
            clear H1
            simp only [Option.some.injEq, Prod.mk.injEq] at H
            obtain ⟨rfl, rfl, rfl, rfl⟩ := H
            have hnb36 := NB260_261.out
            have hnc36 := NB261_260.out
            have hcz37_0 : wr.cell? ⟨gb260, 0, none⟩ = some (.int .i64 a0_0) := (blk_cell BK260.out 0).trans rfl
            have hcz37_1 : wr.cell? ⟨gb260, 1, none⟩ = some (.int .i64 a0_1) := (blk_cell BK260.out 1).trans rfl
            have hcz37_2 : wr.cell? ⟨gb260, 2, none⟩ = some (.int .i64 a0_2) := (blk_cell BK260.out 2).trans rfl
            have hcz37_3 : wr.cell? ⟨gb260, 3, none⟩ = some (.int .i64 a0_3) := (blk_cell BK260.out 3).trans rfl
            have hfz37_0 := blk_frozen BK260.out 0
            have hfz37_1 := blk_frozen BK260.out 1
            have hfz37_2 := blk_frozen BK260.out 2
            have hfz37_3 := blk_frozen BK260.out 3
            go_wp2_with (first | ((with_reducible refine gate_dst (N := 13) rfl ?_); refine box_event ?hg (N := 13) ?hd (cs := #[.int .i64 0, .int .i64 0, .int .i64 0, .int .i64 0]) (t := 26) ?hr ?_; (case hd => rfl); (case hg => rfl); (case hr => first | (go_simp; done) | (go_simp; rfl)); intro gb266 hg w38 hbox hb; have n0_ := Aside0.mk (Kd.R_below q171_ hb); have n1_ := Aside0.mk (blk_below (g := gb260) (o := .cells #[.int .i64 a0_0, .int .i64 a0_1, .int .i64 a0_2, .int .i64 a0_3] 26 (0, 0)) q162_ hb); have n2_ := Aside0.mk (blk_below (g := gb261) (o := .cells #[.int .i64 x262000_1, .int .i64 x262001_1, .int .i64 x262002_1, .int .i64 x262003_1] 26 (0, 0)) q163_ hb); have n3_ := Aside0.mk (below_step q97_ hb); have n4_ := Aside0.mk (hbox); have n5_ := Aside0.mk ((q69_ : w.heap.size ≤ gb266)); have n6_ := Aside0.mk ((q69_ : w.heap.size ≤ gb266)); have n7_ := Aside0.mk ((q48_ : gb260 ≠ gb266)); have n8_ := Aside0.mk ((q49_ : gb266 ≠ gb260)); have n9_ := Aside0.mk ((q22_ : gb261 ≠ gb266)); have n10_ := Aside0.mk ((q23_ : gb266 ≠ gb261)); clear HO_18; clear BK260; clear BK261; clear HB; have HO_18 := n0_; have BK260 := n1_; have BK261 := n2_; have HB := n3_; have BK266 := n4_; have GW266 := n5_; have GE266 := n6_; have NB260_266 := n7_; have NB266_260 := n8_; have NB261_266 := n9_; have NB266_261 := n10_; clear n0_ n1_ n2_ n3_ n4_ n5_ n6_ n7_ n8_ n9_ n10_; clear hb hbox hg; have hnb39 := NB266_260.out; have hnc39 := NB260_266.out; have hnb40 := NB266_261.out; have hnc40 := NB261_266.out; have hcz41_0 : w38.cell? ⟨gb266, 0, none⟩ = some (.int .i64 0) := (blk_cell BK266.out 0).trans rfl; have hcz41_1 : w38.cell? ⟨gb266, 1, none⟩ = some (.int .i64 0) := (blk_cell BK266.out 1).trans rfl; have hcz41_2 : w38.cell? ⟨gb266, 2, none⟩ = some (.int .i64 0) := (blk_cell BK266.out 2).trans rfl; have hcz41_3 : w38.cell? ⟨gb266, 3, none⟩ = some (.int .i64 0) := (blk_cell BK266.out 3).trans rfl; have hfz41_0 := blk_frozen BK266.out 0; have hfz41_1 := blk_frozen BK266.out 1; have hfz41_2 := blk_frozen BK266.out 2; have hfz41_3 := blk_frozen BK266.out 3; have hcz42_0 : w38.cell? ⟨gb260, 0, none⟩ = some (.int .i64 a0_0) := (blk_cell BK260.out 0).trans rfl; have hcz42_1 : w38.cell? ⟨gb260, 1, none⟩ = some (.int .i64 a0_1) := (blk_cell BK260.out 1).trans rfl; have hcz42_2 : w38.cell? ⟨gb260, 2, none⟩ = some (.int .i64 a0_2) := (blk_cell BK260.out 2).trans rfl; have hcz42_3 : w38.cell? ⟨gb260, 3, none⟩ = some (.int .i64 a0_3) := (blk_cell BK260.out 3).trans rfl; have hfz42_0 := blk_frozen BK260.out 0; have hfz42_1 := blk_frozen BK260.out 1; have hfz42_2 := blk_frozen BK260.out 2; have hfz42_3 := blk_frozen BK260.out 3) | ((with_reducible refine gate_callee (f := 35) rfl ?_); refine goesL_ (some 50) rfl rfl Try.func35 (by kernel_rfl) rfl #[.agg #[.int .i64 a0_0, .int .i64 a0_1, .int .i64 a0_2, .int .i64 a0_3]] rfl q128_ ?_; (with_reducible refine (tilefarmref2_Full.calls a0_0 a0_1 a0_2 a0_3 true _ A20.out).mono ?_); rintro e w43 ⟨rfl, hb⟩; refine ⟨_, rfl, ?_⟩; have n0_ := Aside0.mk (Kd.R_below q20_ hb); have n1_ := Aside0.mk (blk_below (g := gb260) (o := .cells #[.int .i64 a0_0, .int .i64 a0_1, .int .i64 a0_2, .int .i64 a0_3] 26 (0, 0)) q17_ hb); have n2_ := Aside0.mk (blk_below (g := gb261) (o := .cells #[.int .i64 x262000_1, .int .i64 x262001_1, .int .i64 x262002_1, .int .i64 x262003_1] 26 (0, 0)) q18_ hb); have n3_ := Aside0.mk (blk_below (g := gb266) (o := .cells #[.int .i64 (wrap64 (a0_0 - a1)), .int .i64 (wrap64 (a0_1 - a2)), .int .i64 (wrap64 (a0_2 + a3)), .int .i64 (wrap64 (a0_3 + a4))] 26 (0, 0)) q0_ hb); have n4_ := Aside0.mk (below_step q76_ hb); clear HO_18; clear BK260; clear BK261; clear BK266; clear HB; have HO_18 := n0_; have BK260 := n1_; have BK261 := n2_; have BK266 := n3_; have HB := n4_; clear n0_ n1_ n2_ n3_ n4_; (try clear hb); (try clear hb2); (try clear hk); (try clear hi); have hcz44_0 : w43.cell? ⟨gb266, 0, none⟩ = some (.int .i64 (wrap64 (a0_0 - a1))) := (blk_cell BK266.out 0).trans rfl; have hcz44_1 : w43.cell? ⟨gb266, 1, none⟩ = some (.int .i64 (wrap64 (a0_1 - a2))) := (blk_cell BK266.out 1).trans rfl; have hcz44_2 : w43.cell? ⟨gb266, 2, none⟩ = some (.int .i64 (wrap64 (a0_2 + a3))) := (blk_cell BK266.out 2).trans rfl; have hcz44_3 : w43.cell? ⟨gb266, 3, none⟩ = some (.int .i64 (wrap64 (a0_3 + a4))) := (blk_cell BK266.out 3).trans rfl; have hfz44_0 := blk_frozen BK266.out 0; have hfz44_1 := blk_frozen BK266.out 1; have hfz44_2 := blk_frozen BK266.out 2; have hfz44_3 := blk_frozen BK266.out 3) | (go_at_call 9; (with_reducible refine (tilefarmref2_Valid.calls (wrap64 (a0_0 - a1)) (wrap64 (a0_1 - a2)) (wrap64 (a0_2 + a3)) (wrap64 (a0_3 + a4)) false _ A22.out).mono ?_); rintro e w45 ⟨rfl, hb⟩; have n0_ := Aside0.mk (Kd.R_below q171_ hb); have n1_ := Aside0.mk (blk_below (g := gb260) (o := .cells #[.int .i64 a0_0, .int .i64 a0_1, .int .i64 a0_2, .int .i64 a0_3] 26 (0, 0)) q162_ hb); have n2_ := Aside0.mk (blk_below (g := gb261) (o := .cells #[.int .i64 x262000_1, .int .i64 x262001_1, .int .i64 x262002_1, .int .i64 x262003_1] 26 (0, 0)) q163_ hb); have n3_ := Aside0.mk (blk_below (g := gb266) (o := .cells #[.int .i64 (wrap64 (a0_0 - a1)), .int .i64 (wrap64 (a0_1 - a2)), .int .i64 (wrap64 (a0_2 + a3)), .int .i64 (wrap64 (a0_3 + a4))] 26 (0, 0)) (by (with_reducible repeat (first | refine blk_drewN ?_ _ | refine blk_drew ?_ | refine blk_alloc ?_ _)); exact BK266.out) hb); have n4_ := Aside0.mk (below_step q76_ hb); clear HO_18; clear BK260; clear BK261; clear BK266; clear HB; have HO_18 := n0_; have BK260 := n1_; have BK261 := n2_; have BK266 := n3_; have HB := n4_; clear n0_ n1_ n2_ n3_ n4_; (try clear hb); (try clear hb2); (try clear hk); (try clear hi); have hcz46_0 : w45.cell? ⟨gb261, 0, none⟩ = some (.int .i64 x262000_1) := (blk_cell BK261.out 0).trans rfl; have hcz46_1 : w45.cell? ⟨gb261, 1, none⟩ = some (.int .i64 x262001_1) := (blk_cell BK261.out 1).trans rfl; have hcz46_2 : w45.cell? ⟨gb261, 2, none⟩ = some (.int .i64 x262002_1) := (blk_cell BK261.out 2).trans rfl; have hcz46_3 : w45.cell? ⟨gb261, 3, none⟩ = some (.int .i64 x262003_1) := (blk_cell BK261.out 3).trans rfl; have hfz46_0 := blk_frozen BK261.out 0; have hfz46_1 := blk_frozen BK261.out 1; have hfz46_2 := blk_frozen BK261.out 2; have hfz46_3 := blk_frozen BK261.out 3))
            refine bodyPost_ret (results_cell_row rfl _ _ gb261 26 #[.int .i64 0, .int .i64 0, .int .i64 0, .int .i64 0] (0, 0) _ rfl q3_ Try.underlying26 rfl (by kernel_rfl)) rfl ?_
            exact ⟨q177_, q76_⟩
        · replace c21 := Bool.eq_false_iff.mpr c21
          subst c21
          have H1 : (some (0, 0, 0, 0)) = some (r1, r2, r3, r4) := by rw [if_neg (show ¬ (false = true) by decide)] at H; exact H
          clear H
          have H := H1
          clear H1
          simp only [Option.some.injEq, Prod.mk.injEq] at H
          obtain ⟨rfl, rfl, rfl, rfl⟩ := H
          have hnb47 := NB260_261.out
          have hnc47 := NB261_260.out
          have hcz48_0 : wr.cell? ⟨gb260, 0, none⟩ = some (.int .i64 a0_0) := (blk_cell BK260.out 0).trans rfl
          have hcz48_1 : wr.cell? ⟨gb260, 1, none⟩ = some (.int .i64 a0_1) := (blk_cell BK260.out 1).trans rfl
          have hcz48_2 : wr.cell? ⟨gb260, 2, none⟩ = some (.int .i64 a0_2) := (blk_cell BK260.out 2).trans rfl
          have hcz48_3 : wr.cell? ⟨gb260, 3, none⟩ = some (.int .i64 a0_3) := (blk_cell BK260.out 3).trans rfl
          have hfz48_0 := blk_frozen BK260.out 0
          have hfz48_1 := blk_frozen BK260.out 1
          have hfz48_2 := blk_frozen BK260.out 2
          have hfz48_3 := blk_frozen BK260.out 3
          go_wp2_with (first | ((with_reducible refine gate_dst (N := 13) rfl ?_); refine box_event ?hg (N := 13) ?hd (cs := #[.int .i64 0, .int .i64 0, .int .i64 0, .int .i64 0]) (t := 26) ?hr ?_; (case hd => rfl); (case hg => rfl); (case hr => first | (go_simp; done) | (go_simp; rfl)); intro gb266 hg w49 hbox hb; have n0_ := Aside0.mk (Kd.R_below q171_ hb); have n1_ := Aside0.mk (blk_below (g := gb260) (o := .cells #[.int .i64 a0_0, .int .i64 a0_1, .int .i64 a0_2, .int .i64 a0_3] 26 (0, 0)) q162_ hb); have n2_ := Aside0.mk (blk_below (g := gb261) (o := .cells #[.int .i64 x262000_1, .int .i64 x262001_1, .int .i64 x262002_1, .int .i64 x262003_1] 26 (0, 0)) q163_ hb); have n3_ := Aside0.mk (below_step q97_ hb); have n4_ := Aside0.mk (hbox); have n5_ := Aside0.mk ((q69_ : w.heap.size ≤ gb266)); have n6_ := Aside0.mk ((q69_ : w.heap.size ≤ gb266)); have n7_ := Aside0.mk ((q48_ : gb260 ≠ gb266)); have n8_ := Aside0.mk ((q49_ : gb266 ≠ gb260)); have n9_ := Aside0.mk ((q22_ : gb261 ≠ gb266)); have n10_ := Aside0.mk ((q23_ : gb266 ≠ gb261)); clear HO_18; clear BK260; clear BK261; clear HB; have HO_18 := n0_; have BK260 := n1_; have BK261 := n2_; have HB := n3_; have BK266 := n4_; have GW266 := n5_; have GE266 := n6_; have NB260_266 := n7_; have NB266_260 := n8_; have NB261_266 := n9_; have NB266_261 := n10_; clear n0_ n1_ n2_ n3_ n4_ n5_ n6_ n7_ n8_ n9_ n10_; clear hb hbox hg; have hnb50 := NB266_260.out; have hnc50 := NB260_266.out; have hnb51 := NB266_261.out; have hnc51 := NB261_266.out; have hcz52_0 : w49.cell? ⟨gb266, 0, none⟩ = some (.int .i64 0) := (blk_cell BK266.out 0).trans rfl; have hcz52_1 : w49.cell? ⟨gb266, 1, none⟩ = some (.int .i64 0) := (blk_cell BK266.out 1).trans rfl; have hcz52_2 : w49.cell? ⟨gb266, 2, none⟩ = some (.int .i64 0) := (blk_cell BK266.out 2).trans rfl; have hcz52_3 : w49.cell? ⟨gb266, 3, none⟩ = some (.int .i64 0) := (blk_cell BK266.out 3).trans rfl; have hfz52_0 := blk_frozen BK266.out 0; have hfz52_1 := blk_frozen BK266.out 1; have hfz52_2 := blk_frozen BK266.out 2; have hfz52_3 := blk_frozen BK266.out 3; have hcz53_0 : w49.cell? ⟨gb260, 0, none⟩ = some (.int .i64 a0_0) := (blk_cell BK260.out 0).trans rfl; have hcz53_1 : w49.cell? ⟨gb260, 1, none⟩ = some (.int .i64 a0_1) := (blk_cell BK260.out 1).trans rfl; have hcz53_2 : w49.cell? ⟨gb260, 2, none⟩ = some (.int .i64 a0_2) := (blk_cell BK260.out 2).trans rfl; have hcz53_3 : w49.cell? ⟨gb260, 3, none⟩ = some (.int .i64 a0_3) := (blk_cell BK260.out 3).trans rfl; have hfz53_0 := blk_frozen BK260.out 0; have hfz53_1 := blk_frozen BK260.out 1; have hfz53_2 := blk_frozen BK260.out 2; have hfz53_3 := blk_frozen BK260.out 3) | ((with_reducible refine gate_callee (f := 35) rfl ?_); refine goesL_ (some 50) rfl rfl Try.func35 (by kernel_rfl) rfl #[.agg #[.int .i64 a0_0, .int .i64 a0_1, .int .i64 a0_2, .int .i64 a0_3]] rfl q128_ ?_; (with_reducible refine (tilefarmref2_Full.calls a0_0 a0_1 a0_2 a0_3 false _ A20.out).mono ?_); rintro e w54 ⟨rfl, hb⟩; refine ⟨_, rfl, ?_⟩; have n0_ := Aside0.mk (Kd.R_below q20_ hb); have n1_ := Aside0.mk (blk_below (g := gb260) (o := .cells #[.int .i64 a0_0, .int .i64 a0_1, .int .i64 a0_2, .int .i64 a0_3] 26 (0, 0)) q17_ hb); have n2_ := Aside0.mk (blk_below (g := gb261) (o := .cells #[.int .i64 x262000_1, .int .i64 x262001_1, .int .i64 x262002_1, .int .i64 x262003_1] 26 (0, 0)) q18_ hb); have n3_ := Aside0.mk (blk_below (g := gb266) (o := .cells #[.int .i64 (wrap64 (a0_0 - a1)), .int .i64 (wrap64 (a0_1 - a2)), .int .i64 (wrap64 (a0_2 + a3)), .int .i64 (wrap64 (a0_3 + a4))] 26 (0, 0)) q0_ hb); have n4_ := Aside0.mk (below_step q76_ hb); clear HO_18; clear BK260; clear BK261; clear BK266; clear HB; have HO_18 := n0_; have BK260 := n1_; have BK261 := n2_; have BK266 := n3_; have HB := n4_; clear n0_ n1_ n2_ n3_ n4_; (try clear hb); (try clear hb2); (try clear hk); (try clear hi); have hcz55_0 : w54.cell? ⟨gb261, 0, none⟩ = some (.int .i64 x262000_1) := (blk_cell BK261.out 0).trans rfl; have hcz55_1 : w54.cell? ⟨gb261, 1, none⟩ = some (.int .i64 x262001_1) := (blk_cell BK261.out 1).trans rfl; have hcz55_2 : w54.cell? ⟨gb261, 2, none⟩ = some (.int .i64 x262002_1) := (blk_cell BK261.out 2).trans rfl; have hcz55_3 : w54.cell? ⟨gb261, 3, none⟩ = some (.int .i64 x262003_1) := (blk_cell BK261.out 3).trans rfl; have hfz55_0 := blk_frozen BK261.out 0; have hfz55_1 := blk_frozen BK261.out 1; have hfz55_2 := blk_frozen BK261.out 2; have hfz55_3 := blk_frozen BK261.out 3))
          refine bodyPost_ret (results_cell_row rfl _ _ gb261 26 #[.int .i64 0, .int .i64 0, .int .i64 0, .int .i64 0] (0, 0) _ rfl q3_ Try.underlying26 rfl (by kernel_rfl)) rfl ?_
          exact ⟨q177_, q76_⟩

end Go.Proofs.Ytdkmgcckcimhfaa.PRectComputes
