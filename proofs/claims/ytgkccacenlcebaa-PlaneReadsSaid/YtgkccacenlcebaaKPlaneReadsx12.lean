-- Written by a program of the session (wip/tools/pack.py): the printed texts, pruned; checked by Lean.
import Derived.Test.YtgkccacenlcebaaKPlaneReadsa
import Derived.Test.YtgkccacenlcebaaKPlaneReadsx0
import Derived.Test.YtgkccacenlcebaaKPlaneReadsx11
namespace Go.Proofs.Ytgkccacenlcebaa.PPlaneReads
open Go.RowKit Go.Proofs.YtgkccacenlcebaaW.PrintWords Go.Proofs.YtgkccacenlcebaaW.PrintLast Go.Proofs.YtgkccacenlcebaaW.PrintMore
attribute [local go_sem] max2_int min2_int max_two min_two max_three min_three max_four min_four   -- for this text's walks alone
set_option linter.unusedVariables false
set_option linter.unusedSimpArgs false
mutual
def tilefarmref4_Valid.j0 : Nat → Bool → Int → Int → Int → List Int → Option (Bool)
  | 0, _, _, _, _, _ => none
  | k + 1, x22, x339000, x339001, x339002, x339003 => if x22 = true then (some false) else (tilefarmref4_Valid.l0 k 0 x339000 x339001 x339002 x339003)
def tilefarmref4_Valid.l0 : Nat → Int → Int → Int → Int → List Int → Option (Bool)
  | 0, _, _, _, _, _ => none
  | k + 1, x3, x339000, x339001, x339002, x339003 => if x3 < (x339003.length : Int) then (if 0 ≤ x3 then (if (rd x339003 x3) < 0 then (some false) else (if (rd x339003 x3) > x339002 then (some false) else (tilefarmref4_Valid.l0 k (wrap64 (x3 + 1)) x339000 x339001 x339002 x339003))) else (none)) else (some true)
end
def tilefarmref4_Valid.f (k : Nat) (a0_0 : Int) (a0_1 : Int) (a0_2 : Int) (l0_3 : List Int) : Option (Bool) := (tilefarmref4_Size.f a0_0 a0_1 a0_2).bind fun t339 => (if t339 = true then (tilefarmref4_Valid.j0 k ((l0_3.length : Int) != (wrap64 (a0_0 * a0_1))) a0_0 a0_1 a0_2 l0_3) else (tilefarmref4_Valid.j0 k true a0_0 a0_1 a0_2 l0_3))
theorem tilefarmref4_Valid.mono_l : ∀ k, (∀ y0 y1 y2 y3 y4, LeO (tilefarmref4_Valid.j0 k y0 y1 y2 y3 y4) (tilefarmref4_Valid.j0 (k + 1) y0 y1 y2 y3 y4)) ∧ (∀ y0 y1 y2 y3 y4, LeO (tilefarmref4_Valid.l0 k y0 y1 y2 y3 y4) (tilefarmref4_Valid.l0 (k + 1) y0 y1 y2 y3 y4))
  | 0 => ⟨fun _ _ _ _ _ r h => by simp [tilefarmref4_Valid.j0] at h, fun _ _ _ _ _ r h => by simp [tilefarmref4_Valid.l0] at h⟩
  | k + 1 => by
    obtain ⟨ih0, ih1⟩ := tilefarmref4_Valid.mono_l k
    refine ⟨?_, ?_⟩
    · intro y0 y1 y2 y3 y4
      unfold tilefarmref4_Valid.j0
      repeat' first
      | (with_reducible exact ih0 _ _ _ _ _)
      | (with_reducible exact ih1 _ _ _ _ _)
      | (with_reducible exact LeO.refl _)
      | (with_reducible exact LeO.none _)
      | (with_reducible refine LeO.ite ?_ ?_)
      | (with_reducible refine LeO.bind ?_ (fun _ => ?_))
      | exact ih0 _ _ _ _ _
      | exact ih1 _ _ _ _ _
      | exact LeO.none _
      | refine LeO.ite ?_ ?_
      | refine LeO.bind ?_ (fun _ => ?_)
    · intro y0 y1 y2 y3 y4
      unfold tilefarmref4_Valid.l0
      repeat' first
      | (with_reducible exact ih0 _ _ _ _ _)
      | (with_reducible exact ih1 _ _ _ _ _)
      | (with_reducible exact LeO.refl _)
      | (with_reducible exact LeO.none _)
      | (with_reducible refine LeO.ite ?_ ?_)
      | (with_reducible refine LeO.bind ?_ (fun _ => ?_))
      | exact ih0 _ _ _ _ _
      | exact ih1 _ _ _ _ _
      | exact LeO.none _
      | refine LeO.ite ?_ ?_
      | refine LeO.bind ?_ (fun _ => ?_)
theorem tilefarmref4_Valid.mono : ∀ a0 a1 a2 a3 k, LeO (tilefarmref4_Valid.f k a0 a1 a2 a3) (tilefarmref4_Valid.f (k + 1) a0 a1 a2 a3) := by
  intro a0 a1 a2 a3 k
  obtain ⟨ih0, ih1⟩ := tilefarmref4_Valid.mono_l k
  unfold tilefarmref4_Valid.f
  repeat' first
      | (with_reducible exact ih0 _ _ _ _ _)
      | (with_reducible exact ih1 _ _ _ _ _)
      | (with_reducible exact LeO.refl _)
      | (with_reducible exact LeO.none _)
      | (with_reducible refine LeO.ite ?_ ?_)
      | (with_reducible refine LeO.bind ?_ (fun _ => ?_))
      | exact ih0 _ _ _ _ _
      | exact ih1 _ _ _ _ _
      | exact LeO.none _
      | refine LeO.ite ?_ ?_
      | refine LeO.bind ?_ (fun _ => ?_)
set_option maxHeartbeats 8000000 in
set_option maxRecDepth 100000 in
theorem tilefarmref4_Valid.calls (k : Nat) (a0_0 : Int) (a0_1 : Int) (a0_2 : Int) (A0_3 : Option Addr) (c0_3 : Nat) (l0_3 : List Int) (r : Bool) (w : World) (hr0_3 : Kd.C (Kd.int .i64) w A0_3 l0_3.length l0_3) (hc0_3 : l0_3.length ≤ c0_3) (h : tilefarmref4_Valid.f k a0_0 a0_1 a0_2 l0_3 = some r) :
    Calls Try.prog 16 #[.agg #[.int .i64 a0_0, .int .i64 a0_1, .int .i64 a0_2, .slice A0_3 l0_3.length c0_3]] w fun e w' => e = .returned (.bool r) ∧ Below w.heap.size w w' := by
  have hu26 := Try.underlying26
  have HR0_3 := Aside0.mk hr0_3
  have HC0_3 := Aside0.mk hc0_3
  clear hr0_3 hc0_3
  have HB := Aside0.mk (Below.refl w.heap.size w)
  have H : ((tilefarmref4_Size.f a0_0 a0_1 a0_2).bind fun t339 => (if t339 = true then (tilefarmref4_Valid.j0 k ((l0_3.length : Int) != (wrap64 (a0_0 * a0_1))) a0_0 a0_1 a0_2 l0_3) else (tilefarmref4_Valid.j0 k true a0_0 a0_1 a0_2 l0_3))) = some r := h
  clear h
  have HC2 := Aside0.mk H
  clear H
  go_enter Try.func16, Try.ntmps16
  go_upto_region 1 with (first | ((with_reducible refine gate_dst (N := 1) rfl ?_); (try (refine gate_guard (by rfl) ?_; dsimp only)); refine box_event ?hg (N := 1) ?hd (cs := #[.int .i64 a0_0, .int .i64 a0_1, .int .i64 a0_2, .slice A0_3 l0_3.length c0_3]) (t := 26) ?hr ?_; (case hd => rfl); (case hg => rfl); (case hr => first | (go_simp; done) | (go_simp; rfl)); intro gb338 hg w3 hbox hb; have n0_ := Aside0.mk (below_step q120_ hb); have n1_ := Aside0.mk (hbox); have n2_ := Aside0.mk ((q95_ : w.heap.size ≤ gb338)); have n3_ := Aside0.mk ((q95_ : w.heap.size ≤ gb338)); clear HB; have HB := n0_; have BK338 := n1_; have GW338 := n2_; have GE338 := n3_; clear n0_ n1_ n2_ n3_; clear hb hbox hg))
  repeat (go_quiet (first | ((with_reducible refine gate_dst (N := 1) rfl ?_); (try (refine gate_guard (by rfl) ?_; dsimp only)); refine box_event ?hg (N := 1) ?hd (cs := #[.int .i64 a0_0, .int .i64 a0_1, .int .i64 a0_2, .slice A0_3 l0_3.length c0_3]) (t := 26) ?hr ?_; (case hd => rfl); (case hg => rfl); (case hr => first | (go_simp; done) | (go_simp; rfl)); intro gb338 hg w3 hbox hb; have n0_ := Aside0.mk (below_step q120_ hb); have n1_ := Aside0.mk (hbox); have n2_ := Aside0.mk ((q95_ : w.heap.size ≤ gb338)); have n3_ := Aside0.mk ((q95_ : w.heap.size ≤ gb338)); clear HB; have HB := n0_; have BK338 := n1_; have GW338 := n2_; have GE338 := n3_; clear n0_ n1_ n2_ n3_; clear hb hbox hg)); go_upto_region 1 with (first | ((with_reducible refine gate_dst (N := 1) rfl ?_); (try (refine gate_guard (by rfl) ?_; dsimp only)); refine box_event ?hg (N := 1) ?hd (cs := #[.int .i64 a0_0, .int .i64 a0_1, .int .i64 a0_2, .slice A0_3 l0_3.length c0_3]) (t := 26) ?hr ?_; (case hd => rfl); (case hg => rfl); (case hr => first | (go_simp; done) | (go_simp; rfl)); intro gb338 hg w3 hbox hb; have n0_ := Aside0.mk (below_step q120_ hb); have n1_ := Aside0.mk (hbox); have n2_ := Aside0.mk ((q95_ : w.heap.size ≤ gb338)); have n3_ := Aside0.mk ((q95_ : w.heap.size ≤ gb338)); clear HB; have HB := n0_; have BK338 := n1_; have GW338 := n2_; have GE338 := n3_; clear n0_ n1_ n2_ n3_; clear hb hbox hg)))
  (try simp only [Act.put, List.setIfInBounds_toArray, List.set_cons_zero, List.set_cons_succ])
  go_cut [22] (fun v22 wc => ∃ (kq : Nat) (x22_1 : Bool), v22 = .bool x22_1 ∧ Aside0 (tilefarmref4_Valid.j0 kq x22_1 a0_0 a0_1 a0_2 l0_3 = some r) ∧ Aside0 (kq ≤ k) ∧ Aside0 (wc.heap[gb338]? = some (.cells #[.int .i64 a0_0, .int .i64 a0_1, .int .i64 a0_2, (.slice A0_3 l0_3.length c0_3)] 26 (0, 0))) ∧ Aside0 (Below w.heap.size w wc))
  case first =>
    have H := HC2.out
    clear HC2
    replace H := Option.bind_eq_some_iff.mp H
    obtain ⟨t339, A40, H⟩ := H
    replace H : (if t339 = true then (tilefarmref4_Valid.j0 k ((l0_3.length : Int) != (wrap64 (a0_0 * a0_1))) a0_0 a0_1 a0_2 l0_3) else (tilefarmref4_Valid.j0 k true a0_0 a0_1 a0_2 l0_3)) = some r := H
    have A4 := Aside0.mk A40
    clear A40
    by_cases c5 : t339 = true
    · subst c5
      have H1 : (tilefarmref4_Valid.j0 k ((l0_3.length : Int) != (wrap64 (a0_0 * a0_1))) a0_0 a0_1 a0_2 l0_3) = some r := by rw [if_pos rfl] at H; exact H
      clear H
      have H := H1
      clear H1
      have H' := Aside0.mk H
      clear H
      have hcz6_0 : w3.cell? ⟨gb338, 0, none⟩ = some (.int .i64 a0_0) := (blk_cell BK338.out 0).trans rfl
      have hcz6_1 : w3.cell? ⟨gb338, 1, none⟩ = some (.int .i64 a0_1) := (blk_cell BK338.out 1).trans rfl
      have hcz6_2 : w3.cell? ⟨gb338, 2, none⟩ = some (.int .i64 a0_2) := (blk_cell BK338.out 2).trans rfl
      have hcz6_3 : w3.cell? ⟨gb338, 3, none⟩ = some (.slice A0_3 l0_3.length c0_3) := (blk_cell BK338.out 3).trans rfl
      have hfz6_0 := blk_frozen BK338.out 0
      have hfz6_1 := blk_frozen BK338.out 1
      have hfz6_2 := blk_frozen BK338.out 2
      have hfz6_3 := blk_frozen BK338.out 3
      go_wp2_with (first | (go_at_call 39; (with_reducible refine (tilefarmref4_Size.calls a0_0 a0_1 a0_2 true _ A4.out).mono ?_); rintro e w' ⟨rfl, ⟨nd, rfl⟩⟩; (try first | exact ⟨rfl, _, World.drewN_drewN _ _ _⟩ | exact ⟨rfl, _, Eq.trans (World.drewN_drewN _ _ _) (congrArg (World.drewN _) (Nat.add_assoc _ _ _))⟩)))
      repeat (go_quiet (first | (go_at_call 39; (with_reducible refine (tilefarmref4_Size.calls a0_0 a0_1 a0_2 true _ A4.out).mono ?_); rintro e w' ⟨rfl, ⟨nd, rfl⟩⟩; (try first | exact ⟨rfl, _, World.drewN_drewN _ _ _⟩ | exact ⟨rfl, _, Eq.trans (World.drewN_drewN _ _ _) (congrArg (World.drewN _) (Nat.add_assoc _ _ _))⟩))); try go_wp2_with (first | (go_at_call 39; (with_reducible refine (tilefarmref4_Size.calls a0_0 a0_1 a0_2 true _ A4.out).mono ?_); rintro e w' ⟨rfl, ⟨nd, rfl⟩⟩; (try first | exact ⟨rfl, _, World.drewN_drewN _ _ _⟩ | exact ⟨rfl, _, Eq.trans (World.drewN_drewN _ _ _) (congrArg (World.drewN _) (Nat.add_assoc _ _ _))⟩))))
      go_meet
      case rel => exact ⟨_, (((l0_3.length : Int) != (wrap64 (a0_0 * a0_1)))), q178_, H', ⟨by first | omega | exact Nat.le_refl _⟩, ⟨q151_⟩, ⟨q110_⟩⟩
    · replace c5 := Bool.eq_false_iff.mpr c5
      subst c5
      have H1 : (tilefarmref4_Valid.j0 k true a0_0 a0_1 a0_2 l0_3) = some r := by rw [if_neg (show ¬ (false = true) by decide)] at H; exact H
      clear H
      have H := H1
      clear H1
      have H' := Aside0.mk H
      clear H
      have hcz7_0 : w3.cell? ⟨gb338, 0, none⟩ = some (.int .i64 a0_0) := (blk_cell BK338.out 0).trans rfl
      have hcz7_1 : w3.cell? ⟨gb338, 1, none⟩ = some (.int .i64 a0_1) := (blk_cell BK338.out 1).trans rfl
      have hcz7_2 : w3.cell? ⟨gb338, 2, none⟩ = some (.int .i64 a0_2) := (blk_cell BK338.out 2).trans rfl
      have hcz7_3 : w3.cell? ⟨gb338, 3, none⟩ = some (.slice A0_3 l0_3.length c0_3) := (blk_cell BK338.out 3).trans rfl
      have hfz7_0 := blk_frozen BK338.out 0
      have hfz7_1 := blk_frozen BK338.out 1
      have hfz7_2 := blk_frozen BK338.out 2
      have hfz7_3 := blk_frozen BK338.out 3
      go_wp2_with (first | (go_at_call 39; (with_reducible refine (tilefarmref4_Size.calls a0_0 a0_1 a0_2 false _ A4.out).mono ?_); rintro e w' ⟨rfl, ⟨nd, rfl⟩⟩; (try first | exact ⟨rfl, _, World.drewN_drewN _ _ _⟩ | exact ⟨rfl, _, Eq.trans (World.drewN_drewN _ _ _) (congrArg (World.drewN _) (Nat.add_assoc _ _ _))⟩)))
      repeat (go_quiet (first | (go_at_call 39; (with_reducible refine (tilefarmref4_Size.calls a0_0 a0_1 a0_2 false _ A4.out).mono ?_); rintro e w' ⟨rfl, ⟨nd, rfl⟩⟩; (try first | exact ⟨rfl, _, World.drewN_drewN _ _ _⟩ | exact ⟨rfl, _, Eq.trans (World.drewN_drewN _ _ _) (congrArg (World.drewN _) (Nat.add_assoc _ _ _))⟩))); try go_wp2_with (first | (go_at_call 39; (with_reducible refine (tilefarmref4_Size.calls a0_0 a0_1 a0_2 false _ A4.out).mono ?_); rintro e w' ⟨rfl, ⟨nd, rfl⟩⟩; (try first | exact ⟨rfl, _, World.drewN_drewN _ _ _⟩ | exact ⟨rfl, _, Eq.trans (World.drewN_drewN _ _ _) (congrArg (World.drewN _) (Nat.add_assoc _ _ _))⟩))))
      go_meet
      case rel => exact ⟨_, (true), q178_, H', ⟨by first | omega | exact Nat.le_refl _⟩, ⟨q151_⟩, ⟨q110_⟩⟩
  case rest =>
    clear HC2
    try clear c1
    try clear p2
    try clear c5
    try clear p6
    try clear hcz6_0
    try clear hcz6_1
    try clear hcz6_2
    try clear hcz6_3
    try clear hcz7_0
    try clear hcz7_1
    try clear hcz7_2
    try clear hcz7_3
    try clear hfz6_0
    try clear hfz6_1
    try clear hfz6_2
    try clear hfz6_3
    try clear hfz7_0
    try clear hfz7_1
    try clear hfz7_2
    try clear hfz7_3
    obtain ⟨kq, x22_1, rfl, HA, HJ1, BK338, HB⟩ := hcut
    cases kq with
    | zero => exact absurd HA.out (by simp [tilefarmref4_Valid.j0])
    | succ kj1 =>
      have H := HA.out
      clear HA
      simp only [tilefarmref4_Valid.j0] at H
      by_cases c8 : x22_1 = true
      · subst c8
        have H1 : (some false) = some r := by rw [if_pos rfl] at H; exact H
        clear H
        have H := H1
        clear H1
        obtain rfl := Option.some.inj H
        go_wp2
        repeat (go_quiet (fail); try go_wp2)
        go_ret
        exact ⟨q175_, q110_⟩
      · replace c8 := Bool.eq_false_iff.mpr c8
        subst c8
        have H1 : (tilefarmref4_Valid.l0 kj1 0 a0_0 a0_1 a0_2 l0_3) = some r := by rw [if_neg (show ¬ (false = true) by decide)] at H; exact H
        clear H
        have H := H1
        clear H1
        have H' := Aside0.mk H
        clear H
        go_wp2
        repeat (go_quiet (fail); try go_wp2)
        go_loopg [3] kj1 (fun kq v3 w' => ∃ (x3_2 : Int), v3 = .int .i64 x3_2 ∧ Aside0 (tilefarmref4_Valid.l0 kq x3_2 a0_0 a0_1 a0_2 l0_3 = some r) ∧ Aside0 (kq ≤ kj1) ∧ Aside0 (w'.heap[gb338]? = some (.cells #[.int .i64 a0_0, .int .i64 a0_1, .int .i64 a0_2, (.slice A0_3 l0_3.length c0_3)] 26 (0, 0))) ∧ Aside0 (Below w.heap.size w w'))
        case atStart => exact ⟨(0), q178_, H', ⟨Nat.le_refl _⟩, ⟨q151_⟩, ⟨q110_⟩⟩
        case round =>
          clear H'
          try clear c1
          try clear p2
          try clear c5
          try clear p6
          try clear c8
          try clear hcz6_0
          try clear hcz6_1
          try clear hcz6_2
          try clear hcz6_3
          try clear hcz7_0
          try clear hcz7_1
          try clear hcz7_2
          try clear hcz7_3
          try clear hfz6_0
          try clear hfz6_1
          try clear hfz6_2
          try clear hfz6_3
          try clear hfz7_0
          try clear hfz7_1
          try clear hfz7_2
          try clear hfz7_3
          try clear p2
          try clear p6
          obtain ⟨x3_2, rfl, HA, HK2, BK338, HB⟩ := hrel
          cases gk with
          | zero => exact absurd HA.out (by simp [tilefarmref4_Valid.l0])
          | succ k2 =>
            have H := HA.out
            clear HA
            simp only [tilefarmref4_Valid.l0] at H
            by_cases c9 : x3_2 < (l0_3.length : Int)
            · rw [if_pos c9] at H
              have c9b0 : decide (x3_2 < (l0_3.length : Int)) = true := decide_eq_true c9
              clear c9
              by_cases c10 : 0 ≤ x3_2
              · rw [if_pos c10] at H
                have c10b0 : decide (0 ≤ x3_2) = true := decide_eq_true c10
                clear c10
                by_cases c11 : (rd l0_3 x3_2) < 0
                · rw [if_pos c11] at H
                  have c11b0 : decide ((rd l0_3 x3_2) < 0) = true := decide_eq_true c11
                  clear c11
                  obtain rfl := Option.some.inj H
                  have hcz12_0 : wr.cell? ⟨gb338, 0, none⟩ = some (.int .i64 a0_0) := (blk_cell BK338.out 0).trans rfl
                  have hcz12_1 : wr.cell? ⟨gb338, 1, none⟩ = some (.int .i64 a0_1) := (blk_cell BK338.out 1).trans rfl
                  have hcz12_2 : wr.cell? ⟨gb338, 2, none⟩ = some (.int .i64 a0_2) := (blk_cell BK338.out 2).trans rfl
                  have hcz12_3 : wr.cell? ⟨gb338, 3, none⟩ = some (.slice A0_3 l0_3.length c0_3) := (blk_cell BK338.out 3).trans rfl
                  have hfz12_0 := blk_frozen BK338.out 0
                  have hfz12_1 := blk_frozen BK338.out 1
                  have hfz12_2 := blk_frozen BK338.out 2
                  have hfz12_3 := blk_frozen BK338.out 3
                  have p340 : 0 ≤ (x3_2 : Int) := of_decide_eq_true q177_
                  have q340 : x3_2 < (l0_3.length : Int) := of_decide_eq_true q177_
                  obtain ⟨ad340, e340, hx340_0⟩ := Kd.at_int HR0_3.out x3_2 p340 q340
                  cases e340
                  replace hx340_0 := (HB.out.cell (World.block_lt_of_cell? w _ hx340_0)).trans hx340_0
                  replace p340 := eq_true p340
                  replace q340 := eq_true q340
                  go_wp2
                  repeat (go_quiet (fail); try go_wp2)
                  go_ret
                  exact ⟨q175_, q110_⟩
                · rw [if_neg c11] at H
                  have c11b0 : decide ((rd l0_3 x3_2) < 0) = false := decide_eq_false c11
                  clear c11
                  by_cases c13 : (rd l0_3 x3_2) > a0_2
                  · rw [if_pos c13] at H
                    have c13b0 : decide (a0_2 < (rd l0_3 x3_2)) = true := decide_eq_true c13
                    clear c13
                    obtain rfl := Option.some.inj H
                    have hcz14_0 : wr.cell? ⟨gb338, 0, none⟩ = some (.int .i64 a0_0) := (blk_cell BK338.out 0).trans rfl
                    have hcz14_1 : wr.cell? ⟨gb338, 1, none⟩ = some (.int .i64 a0_1) := (blk_cell BK338.out 1).trans rfl
                    have hcz14_2 : wr.cell? ⟨gb338, 2, none⟩ = some (.int .i64 a0_2) := (blk_cell BK338.out 2).trans rfl
                    have hcz14_3 : wr.cell? ⟨gb338, 3, none⟩ = some (.slice A0_3 l0_3.length c0_3) := (blk_cell BK338.out 3).trans rfl
                    have hfz14_0 := blk_frozen BK338.out 0
                    have hfz14_1 := blk_frozen BK338.out 1
                    have hfz14_2 := blk_frozen BK338.out 2
                    have hfz14_3 := blk_frozen BK338.out 3
                    have p340 : 0 ≤ (x3_2 : Int) := of_decide_eq_true q177_
                    have q340 : x3_2 < (l0_3.length : Int) := of_decide_eq_true q177_
                    obtain ⟨ad340, e340, hx340_0⟩ := Kd.at_int HR0_3.out x3_2 p340 q340
                    cases e340
                    replace hx340_0 := (HB.out.cell (World.block_lt_of_cell? w _ hx340_0)).trans hx340_0
                    replace p340 := eq_true p340
                    replace q340 := eq_true q340
                    have p341 : 0 ≤ (x3_2 : Int) := of_decide_eq_true q177_
                    have q341 : x3_2 < (l0_3.length : Int) := of_decide_eq_true q177_
                    obtain ⟨ad341, e341, hx341_0⟩ := Kd.at_int HR0_3.out x3_2 p341 q341
                    obtain rfl : ad340 = ad341 := (by injection e341)
                    replace hx341_0 := (HB.out.cell (World.block_lt_of_cell? w _ hx341_0)).trans hx341_0
                    replace p341 := eq_true p341
                    replace q341 := eq_true q341
                    go_wp2
                    repeat (go_quiet (fail); try go_wp2)
                    go_ret
                    exact ⟨q175_, q110_⟩
                  · rw [if_neg c13] at H
                    have c13b0 : decide (a0_2 < (rd l0_3 x3_2)) = false := decide_eq_false c13
                    clear c13
                    have H' := Aside0.mk H
                    clear H
                    have hcz15_0 : wr.cell? ⟨gb338, 0, none⟩ = some (.int .i64 a0_0) := (blk_cell BK338.out 0).trans rfl
                    have hcz15_1 : wr.cell? ⟨gb338, 1, none⟩ = some (.int .i64 a0_1) := (blk_cell BK338.out 1).trans rfl
                    have hcz15_2 : wr.cell? ⟨gb338, 2, none⟩ = some (.int .i64 a0_2) := (blk_cell BK338.out 2).trans rfl
                    have hcz15_3 : wr.cell? ⟨gb338, 3, none⟩ = some (.slice A0_3 l0_3.length c0_3) := (blk_cell BK338.out 3).trans rfl
                    have hfz15_0 := blk_frozen BK338.out 0
                    have hfz15_1 := blk_frozen BK338.out 1
                    have hfz15_2 := blk_frozen BK338.out 2
                    have hfz15_3 := blk_frozen BK338.out 3
                    have p340 : 0 ≤ (x3_2 : Int) := of_decide_eq_true q177_
                    have q340 : x3_2 < (l0_3.length : Int) := of_decide_eq_true q177_
                    obtain ⟨ad340, e340, hx340_0⟩ := Kd.at_int HR0_3.out x3_2 p340 q340
                    cases e340
                    replace hx340_0 := (HB.out.cell (World.block_lt_of_cell? w _ hx340_0)).trans hx340_0
                    replace p340 := eq_true p340
                    replace q340 := eq_true q340
                    have p341 : 0 ≤ (x3_2 : Int) := of_decide_eq_true q177_
                    have q341 : x3_2 < (l0_3.length : Int) := of_decide_eq_true q177_
                    obtain ⟨ad341, e341, hx341_0⟩ := Kd.at_int HR0_3.out x3_2 p341 q341
                    obtain rfl : ad340 = ad341 := (by injection e341)
                    replace hx341_0 := (HB.out.cell (World.block_lt_of_cell? w _ hx341_0)).trans hx341_0
                    replace p341 := eq_true p341
                    replace q341 := eq_true q341
                    go_wp2
                    repeat (go_quiet (fail); try go_wp2)
                    go_roundg k2
                    case measure => have := HJ1.out; have := HK2.out; omega
                    case rel => exact ⟨(wrap64 (x3_2 + 1)), q178_, H', ⟨by have := HJ1.out; have := HK2.out; omega⟩, ⟨q151_⟩, ⟨q110_⟩⟩
              · rw [if_neg c10] at H
                exact absurd H (by simp)
            · rw [if_neg c9] at H
              have c9b0 : decide (x3_2 < (l0_3.length : Int)) = false := decide_eq_false c9
              clear c9
              obtain rfl := Option.some.inj H
              have hcz16_0 : wr.cell? ⟨gb338, 0, none⟩ = some (.int .i64 a0_0) := (blk_cell BK338.out 0).trans rfl
              have hcz16_1 : wr.cell? ⟨gb338, 1, none⟩ = some (.int .i64 a0_1) := (blk_cell BK338.out 1).trans rfl
              have hcz16_2 : wr.cell? ⟨gb338, 2, none⟩ = some (.int .i64 a0_2) := (blk_cell BK338.out 2).trans rfl
              have hcz16_3 : wr.cell? ⟨gb338, 3, none⟩ = some (.slice A0_3 l0_3.length c0_3) := (blk_cell BK338.out 3).trans rfl
              have hfz16_0 := blk_frozen BK338.out 0
              have hfz16_1 := blk_frozen BK338.out 1
              have hfz16_2 := blk_frozen BK338.out 2
              have hfz16_3 := blk_frozen BK338.out 3
              go_wp2
              repeat (go_quiet (fail); try go_wp2)
              go_ret
              exact ⟨q175_, q110_⟩


def tilefarmref3_Valid.f (a0_0 : Int) (a0_1 : Int) (a1 : Int) : Option (Bool) := if a0_0 = 3 then (if a0_1 ≥ 0 then (some (decide (a0_1 ≤ a1))) else (some false)) else (if a0_0 ≥ 0 then (if a0_0 < 3 then (some (a0_1 == 0)) else (some false)) else (some false))
set_option maxHeartbeats 8000000 in
set_option maxRecDepth 100000 in
theorem tilefarmref3_Valid.calls (a0_0 : Int) (a0_1 : Int) (a1 : Int) (r : Bool) (w : World) (h : tilefarmref3_Valid.f a0_0 a0_1 a1 = some r) :
    Calls Try.prog 45 #[.agg #[.int .i64 a0_0, .int .i64 a0_1], .int .i64 a1] w fun e w' => e = .returned (.bool r) ∧ Below w.heap.size w w' := by
  have hu45 := Try.underlying45
  have HB := Aside0.mk (Below.refl w.heap.size w)
  have H : (if a0_0 = 3 then (if a0_1 ≥ 0 then (some (decide (a0_1 ≤ a1))) else (some false)) else (if a0_0 ≥ 0 then (if a0_0 < 3 then (some (a0_1 == 0)) else (some false)) else (some false))) = some r := h
  clear h
  by_cases c3 : a0_0 = 3
  · rw [if_pos c3] at H
    have c3b0 : (a0_0 == 3) = true := beq_iff_eq.mpr c3
    have c3b1 : (a0_0 != 3) = false := bne_eq_false_iff_eq.mpr c3
    clear c3
    by_cases c4 : a0_1 ≥ 0
    · rw [if_pos c4] at H
      have c4b0 : decide (0 ≤ a0_1) = true := decide_eq_true c4
      clear c4
      obtain rfl := Option.some.inj H
      go_enter Try.func45, Try.ntmps45
      go_wp2_with (first | ((with_reducible refine gate_dst (N := 2) rfl ?_); refine box_event ?hg (N := 2) ?hd (cs := #[.int .i64 a0_0, .int .i64 a0_1]) (t := 45) ?hr ?_; (case hd => rfl); (case hg => rfl); (case hr => first | (go_simp; done) | (go_simp; rfl)); intro gb342 hg w5 hbox hb; have n0_ := Aside0.mk (below_step q120_ hb); have n1_ := Aside0.mk (hbox); have n2_ := Aside0.mk ((q95_ : w.heap.size ≤ gb342)); have n3_ := Aside0.mk ((q95_ : w.heap.size ≤ gb342)); clear HB; have HB := n0_; have BK342 := n1_; have GW342 := n2_; have GE342 := n3_; clear n0_ n1_ n2_ n3_; clear hb hbox hg; have hcz6_0 : w5.cell? ⟨gb342, 0, none⟩ = some (.int .i64 a0_0) := (blk_cell BK342.out 0).trans rfl; have hcz6_1 : w5.cell? ⟨gb342, 1, none⟩ = some (.int .i64 a0_1) := (blk_cell BK342.out 1).trans rfl; have hfz6_0 := blk_frozen BK342.out 0; have hfz6_1 := blk_frozen BK342.out 1))
      go_ret
      exact ⟨q175_, q111_⟩
    · rw [if_neg c4] at H
      have c4b0 : decide (0 ≤ a0_1) = false := decide_eq_false c4
      clear c4
      obtain rfl := Option.some.inj H
      go_enter Try.func45, Try.ntmps45
      go_wp2_with (first | ((with_reducible refine gate_dst (N := 2) rfl ?_); refine box_event ?hg (N := 2) ?hd (cs := #[.int .i64 a0_0, .int .i64 a0_1]) (t := 45) ?hr ?_; (case hd => rfl); (case hg => rfl); (case hr => first | (go_simp; done) | (go_simp; rfl)); intro gb342 hg w7 hbox hb; have n0_ := Aside0.mk (below_step q120_ hb); have n1_ := Aside0.mk (hbox); have n2_ := Aside0.mk ((q95_ : w.heap.size ≤ gb342)); have n3_ := Aside0.mk ((q95_ : w.heap.size ≤ gb342)); clear HB; have HB := n0_; have BK342 := n1_; have GW342 := n2_; have GE342 := n3_; clear n0_ n1_ n2_ n3_; clear hb hbox hg; have hcz8_0 : w7.cell? ⟨gb342, 0, none⟩ = some (.int .i64 a0_0) := (blk_cell BK342.out 0).trans rfl; have hcz8_1 : w7.cell? ⟨gb342, 1, none⟩ = some (.int .i64 a0_1) := (blk_cell BK342.out 1).trans rfl; have hfz8_0 := blk_frozen BK342.out 0; have hfz8_1 := blk_frozen BK342.out 1))
      go_ret
      exact ⟨q175_, q111_⟩
  · rw [if_neg c3] at H
    have c3b0 : (a0_0 == 3) = false := beq_eq_false_iff_ne.mpr c3
    have c3b1 : (a0_0 != 3) = true := bne_iff_ne.mpr c3
    by_cases c9 : a0_0 ≥ 0
    · rw [if_pos c9] at H
      have c9b0 : decide (0 ≤ a0_0) = true := decide_eq_true c9
      clear c9
      by_cases c10 : a0_0 < 3
      · rw [if_pos c10] at H
        have c10b0 : decide (a0_0 < 3) = true := decide_eq_true c10
        clear c10
        obtain rfl := Option.some.inj H
        go_enter Try.func45, Try.ntmps45
        go_wp2_with (first | ((with_reducible refine gate_dst (N := 2) rfl ?_); refine box_event ?hg (N := 2) ?hd (cs := #[.int .i64 a0_0, .int .i64 a0_1]) (t := 45) ?hr ?_; (case hd => rfl); (case hg => rfl); (case hr => first | (go_simp; done) | (go_simp; rfl)); intro gb342 hg w11 hbox hb; have n0_ := Aside0.mk (below_step q120_ hb); have n1_ := Aside0.mk (hbox); have n2_ := Aside0.mk ((q95_ : w.heap.size ≤ gb342)); have n3_ := Aside0.mk ((q95_ : w.heap.size ≤ gb342)); clear HB; have HB := n0_; have BK342 := n1_; have GW342 := n2_; have GE342 := n3_; clear n0_ n1_ n2_ n3_; clear hb hbox hg; have hcz12_0 : w11.cell? ⟨gb342, 0, none⟩ = some (.int .i64 a0_0) := (blk_cell BK342.out 0).trans rfl; have hcz12_1 : w11.cell? ⟨gb342, 1, none⟩ = some (.int .i64 a0_1) := (blk_cell BK342.out 1).trans rfl; have hfz12_0 := blk_frozen BK342.out 0; have hfz12_1 := blk_frozen BK342.out 1))
        go_ret
        exact ⟨q175_, q111_⟩
      · rw [if_neg c10] at H
        have c10b0 : decide (a0_0 < 3) = false := decide_eq_false c10
        clear c10
        obtain rfl := Option.some.inj H
        go_enter Try.func45, Try.ntmps45
        go_wp2_with (first | ((with_reducible refine gate_dst (N := 2) rfl ?_); refine box_event ?hg (N := 2) ?hd (cs := #[.int .i64 a0_0, .int .i64 a0_1]) (t := 45) ?hr ?_; (case hd => rfl); (case hg => rfl); (case hr => first | (go_simp; done) | (go_simp; rfl)); intro gb342 hg w13 hbox hb; have n0_ := Aside0.mk (below_step q120_ hb); have n1_ := Aside0.mk (hbox); have n2_ := Aside0.mk ((q95_ : w.heap.size ≤ gb342)); have n3_ := Aside0.mk ((q95_ : w.heap.size ≤ gb342)); clear HB; have HB := n0_; have BK342 := n1_; have GW342 := n2_; have GE342 := n3_; clear n0_ n1_ n2_ n3_; clear hb hbox hg; have hcz14_0 : w13.cell? ⟨gb342, 0, none⟩ = some (.int .i64 a0_0) := (blk_cell BK342.out 0).trans rfl; have hcz14_1 : w13.cell? ⟨gb342, 1, none⟩ = some (.int .i64 a0_1) := (blk_cell BK342.out 1).trans rfl; have hfz14_0 := blk_frozen BK342.out 0; have hfz14_1 := blk_frozen BK342.out 1))
        go_ret
        exact ⟨q175_, q111_⟩
    · rw [if_neg c9] at H
      have c9b0 : decide (0 ≤ a0_0) = false := decide_eq_false c9
      clear c9
      obtain rfl := Option.some.inj H
      go_enter Try.func45, Try.ntmps45
      go_wp2_with (first | ((with_reducible refine gate_dst (N := 2) rfl ?_); refine box_event ?hg (N := 2) ?hd (cs := #[.int .i64 a0_0, .int .i64 a0_1]) (t := 45) ?hr ?_; (case hd => rfl); (case hg => rfl); (case hr => first | (go_simp; done) | (go_simp; rfl)); intro gb342 hg w15 hbox hb; have n0_ := Aside0.mk (below_step q120_ hb); have n1_ := Aside0.mk (hbox); have n2_ := Aside0.mk ((q95_ : w.heap.size ≤ gb342)); have n3_ := Aside0.mk ((q95_ : w.heap.size ≤ gb342)); clear HB; have HB := n0_; have BK342 := n1_; have GW342 := n2_; have GE342 := n3_; clear n0_ n1_ n2_ n3_; clear hb hbox hg; have hcz16_0 : w15.cell? ⟨gb342, 0, none⟩ = some (.int .i64 a0_0) := (blk_cell BK342.out 0).trans rfl; have hcz16_1 : w15.cell? ⟨gb342, 1, none⟩ = some (.int .i64 a0_1) := (blk_cell BK342.out 1).trans rfl; have hfz16_0 := blk_frozen BK342.out 0; have hfz16_1 := blk_frozen BK342.out 1))
      go_ret
      exact ⟨q175_, q111_⟩


def tilefarmref3_mod.f (a0 : Int) (a1 : Int) : Option (Int) := if a1 = 0 then (none) else (if (Int.tmod a0 a1) < 0 then (some (wrap64 ((Int.tmod a0 a1) + a1))) else (some (Int.tmod a0 a1)))
set_option maxHeartbeats 8000000 in
set_option maxRecDepth 100000 in
theorem tilefarmref3_mod.calls (a0 : Int) (a1 : Int) (r : Int) (w : World) (h : tilefarmref3_mod.f a0 a1 = some r) :
    Calls Try.prog 59 #[.int .i64 a0, .int .i64 a1] w fun e w' => e = .returned (.int .i64 r) ∧ Drawn0 w w' := by
  have H : (if a1 = 0 then (none) else (if (Int.tmod a0 a1) < 0 then (some (wrap64 ((Int.tmod a0 a1) + a1))) else (some (Int.tmod a0 a1)))) = some r := h
  clear h
  by_cases c3 : a1 = 0
  · rw [if_pos c3] at H
    exact absurd H (by simp)
  · rw [if_neg c3] at H
    have c3b0 : (a1 == 0) = false := beq_eq_false_iff_ne.mpr c3
    have c3b1 : (a1 != 0) = true := bne_iff_ne.mpr c3
    by_cases c4 : (Int.tmod a0 a1) < 0
    · rw [if_pos c4] at H
      have c4b0 : decide ((Int.tmod a0 a1) < 0) = true := decide_eq_true c4
      clear c4
      obtain rfl := Option.some.inj H
      go_enter Try.func59, Try.ntmps59
      go_wp2
      go_ret
      exact ⟨q178_, q176_⟩
    · rw [if_neg c4] at H
      have c4b0 : decide ((Int.tmod a0 a1) < 0) = false := decide_eq_false c4
      clear c4
      obtain rfl := Option.some.inj H
      go_enter Try.func59, Try.ntmps59
      go_wp2
      go_ret
      exact ⟨q178_, q176_⟩


def tilefarmref3_Index.j0 : Nat → Int → Int → Int → Bool → Option (Int × Bool)
  | 0, _, _, _, _ => none
  | k + 1, x0, x1, x2, x14 => if x14 = true then (some (0, false)) else (if x2 = 0 then (some (mn (mx x0 0) (wrap64 (x1 - 1)), true)) else (if x2 = 1 then ((tilefarmref3_mod.f x0 (wrap64 (2 * x1))).bind fun t343 => (if t343 ≥ x1 then (some (wrap64 ((wrap64 ((wrap64 (2 * x1)) - 1)) - t343), true)) else ((tilefarmref3_mod.f x0 (wrap64 (2 * x1))).bind fun t344 => (some (t344, true))))) else (if x2 = 2 then ((tilefarmref3_mod.f x0 x1).bind fun t345 => (some (t345, true))) else (if x2 = 3 then (if x0 ≥ 0 then (if x0 < x1 then (some (x0, true)) else (some (0, false))) else (some (0, false))) else (some (0, false))))))
def tilefarmref3_Index.f (k : Nat) (a0 : Int) (a1 : Int) (a2 : Int) : Option (Int × Bool) := if a1 < 1 then (tilefarmref3_Index.j0 k a0 a1 a2 true) else (tilefarmref3_Index.j0 k a0 a1 a2 (decide (a1 > 128)))
theorem tilefarmref3_Index.mono_l : ∀ k, (∀ y0 y1 y2 y3, LeO (tilefarmref3_Index.j0 k y0 y1 y2 y3) (tilefarmref3_Index.j0 (k + 1) y0 y1 y2 y3))
  | 0 => fun _ _ _ _ r h => by simp [tilefarmref3_Index.j0] at h
  | k + 1 => by
    have ih0 := tilefarmref3_Index.mono_l k
    · intro y0 y1 y2 y3
      unfold tilefarmref3_Index.j0
      repeat' first
      | (with_reducible exact ih0 _ _ _ _)
      | (with_reducible exact LeO.refl _)
      | (with_reducible exact LeO.none _)
      | (with_reducible refine LeO.ite ?_ ?_)
      | (with_reducible refine LeO.bind ?_ (fun _ => ?_))
      | exact ih0 _ _ _ _
      | exact LeO.none _
      | refine LeO.ite ?_ ?_
      | refine LeO.bind ?_ (fun _ => ?_)
theorem tilefarmref3_Index.mono : ∀ a0 a1 a2 k, LeO (tilefarmref3_Index.f k a0 a1 a2) (tilefarmref3_Index.f (k + 1) a0 a1 a2) := by
  intro a0 a1 a2 k
  have ih0 := tilefarmref3_Index.mono_l k
  unfold tilefarmref3_Index.f
  repeat' first
      | (with_reducible exact ih0 _ _ _ _)
      | (with_reducible exact LeO.refl _)
      | (with_reducible exact LeO.none _)
      | (with_reducible refine LeO.ite ?_ ?_)
      | (with_reducible refine LeO.bind ?_ (fun _ => ?_))
      | exact ih0 _ _ _ _
      | exact LeO.none _
      | refine LeO.ite ?_ ?_
      | refine LeO.bind ?_ (fun _ => ?_)
set_option maxHeartbeats 8000000 in
set_option maxRecDepth 100000 in
theorem tilefarmref3_Index.calls (k : Nat) (a0 : Int) (a1 : Int) (a2 : Int) (r1 : Int) (r2 : Bool) (w : World) (h : tilefarmref3_Index.f k a0 a1 a2 = some (r1, r2)) :
    Calls Try.prog 55 #[.int .i64 a0, .int .i64 a1, .int .i64 a2] w fun e w' => e = .returned (.tuple #[.int .i64 r1, .bool r2]) ∧ Below w.heap.size w w' := by
  have HB := Aside0.mk (Below.refl w.heap.size w)
  have H : (if a1 < 1 then (tilefarmref3_Index.j0 k a0 a1 a2 true) else (tilefarmref3_Index.j0 k a0 a1 a2 (decide (a1 > 128)))) = some (r1, r2) := h
  clear h
  have HC4 := Aside0.mk H
  clear H
  go_enter Try.func55, Try.ntmps55
  go_upto_region 1 with (fail)
  go_cut [14] (fun v14 wc => ∃ (kq : Nat) (x14_3 : Bool), v14 = .bool x14_3 ∧ Aside0 (tilefarmref3_Index.j0 kq a0 a1 a2 x14_3 = some (r1, r2)) ∧ Aside0 (kq ≤ k) ∧ Aside0 (Below w.heap.size w wc))
  case first =>
    have H := HC4.out
    clear HC4
    by_cases c5 : a1 < 1
    · rw [if_pos c5] at H
      have c5b0 : decide (a1 < 1) = true := decide_eq_true c5
      clear c5
      (first | rw [c5b0] | (simp only [i64_w, i32_w]; rw [c5b0]) | skip)
      have H' := Aside0.mk H
      clear H
      go_wp2
      go_meet
      case rel => exact ⟨_, (true), q178_, H', ⟨by first | omega | exact Nat.le_refl _⟩, ⟨q120_⟩⟩
    · rw [if_neg c5] at H
      have c5b0 : decide (a1 < 1) = false := decide_eq_false c5
      clear c5
      (first | rw [c5b0] | (simp only [i64_w, i32_w]; rw [c5b0]) | skip)
      have H' := Aside0.mk H
      clear H
      go_wp2
      go_meet
      case rel => exact ⟨_, (decide (a1 > 128)), q178_, H', ⟨by first | omega | exact Nat.le_refl _⟩, ⟨q120_⟩⟩
  case rest =>
    clear HC4
    try clear p2
    try clear c5
    try clear c5b0
    obtain ⟨kq, x14_3, rfl, HA, HJ3, HB⟩ := hcut
    cases kq with
    | zero => exact absurd HA.out (by simp [tilefarmref3_Index.j0])
    | succ kj3 =>
      have H := HA.out
      clear HA
      simp only [tilefarmref3_Index.j0] at H
      by_cases c6 : x14_3 = true
      · subst c6
        have H1 : (some (0, false)) = some (r1, r2) := by rw [if_pos rfl] at H; exact H
        clear H
        have H := H1
        clear H1
        simp only [Option.some.injEq, Prod.mk.injEq] at H
        obtain ⟨rfl, rfl⟩ := H
        go_wp2
        go_ret2
        exact ⟨q175_, q120_⟩
      · replace c6 := Bool.eq_false_iff.mpr c6
        subst c6
        have H1 : (if a2 = 0 then (some (mn (mx a0 0) (wrap64 (a1 - 1)), true)) else (if a2 = 1 then ((tilefarmref3_mod.f a0 (wrap64 (2 * a1))).bind fun t343 => (if t343 ≥ a1 then (some (wrap64 ((wrap64 ((wrap64 (2 * a1)) - 1)) - t343), true)) else ((tilefarmref3_mod.f a0 (wrap64 (2 * a1))).bind fun t344 => (some (t344, true))))) else (if a2 = 2 then ((tilefarmref3_mod.f a0 a1).bind fun t345 => (some (t345, true))) else (if a2 = 3 then (if a0 ≥ 0 then (if a0 < a1 then (some (a0, true)) else (some (0, false))) else (some (0, false))) else (some (0, false)))))) = some (r1, r2) := by rw [if_neg (show ¬ (false = true) by decide)] at H; exact H
        clear H
        have H := H1
        clear H1
        by_cases c7 : a2 = 0
        · rw [if_pos c7] at H
          have c7b0 : (a2 == 0) = true := beq_iff_eq.mpr c7
          have c7b1 : (a2 != 0) = false := bne_eq_false_iff_eq.mpr c7
          clear c7
          obtain ⟨ji8, hji8⟩ : ∃ j_ : Int, (mx a0 0) = j_ := ⟨_, rfl⟩
          replace H : (some (mn (ji8) (wrap64 (a1 - 1)), true)) = some (r1, r2) := by first | (rw [hji8] at H; exact H) | (simp only [hji8] at H ⊢; exact H)
          have hji8_ : (if a0 < 0 then 0 else a0) = ji8 := hji8
          obtain ⟨ji9, hji9⟩ : ∃ j_ : Int, (mn (ji8) (wrap64 (a1 - 1))) = j_ := ⟨_, rfl⟩
          replace H : (some (ji9, true)) = some (r1, r2) := by first | (rw [hji9] at H; exact H) | (simp only [hji9] at H ⊢; exact H)
          have hji9_ : (if (wrap64 (a1 - 1)) < (ji8) then (wrap64 (a1 - 1)) else (ji8)) = ji9 := hji9
          simp only [Option.some.injEq, Prod.mk.injEq] at H
          obtain ⟨rfl, rfl⟩ := H
          go_wp2
          go_ret2
          exact ⟨by first | rfl | (simp [errW_none, errW_some] <;> rfl) | (simp only [← hji8, ← hji9]; first | rfl | (simp [errW_none, errW_some] <;> rfl)) | (simp [*, errW_none, errW_some] <;> rfl), q120_⟩
        · rw [if_neg c7] at H
          have c7b0 : (a2 == 0) = false := beq_eq_false_iff_ne.mpr c7
          have c7b1 : (a2 != 0) = true := bne_iff_ne.mpr c7
          by_cases c10 : a2 = 1
          · rw [if_pos c10] at H
            have c10b0 : (a2 == 1) = true := beq_iff_eq.mpr c10
            have c10b1 : (a2 != 1) = false := bne_eq_false_iff_eq.mpr c10
            clear c10
            replace H := Option.bind_eq_some_iff.mp H
            obtain ⟨t343, A110, H⟩ := H
            replace H : (if t343 ≥ a1 then (some (wrap64 ((wrap64 ((wrap64 (2 * a1)) - 1)) - t343), true)) else ((tilefarmref3_mod.f a0 (wrap64 (2 * a1))).bind fun t344 => (some (t344, true)))) = some (r1, r2) := H
            have A11 := Aside0.mk A110
            clear A110
            by_cases c12 : t343 ≥ a1
            · rw [if_pos c12] at H
              have c12b0 : decide (a1 ≤ t343) = true := decide_eq_true c12
              clear c12
              simp only [Option.some.injEq, Prod.mk.injEq] at H
              obtain ⟨rfl, rfl⟩ := H
              go_wp2_with (first | ((with_reducible refine gate_callee (f := 59) rfl ?_); refine goesL_ (some 28) rfl rfl Try.func59 (by kernel_rfl) rfl #[.int .i64 a0, .int .i64 (wrap64 (2 * a1))] rfl q117_ ?_; (with_reducible refine (tilefarmref3_mod.calls a0 (wrap64 (2 * a1)) t343 _ A11.out).mono ?_); rintro e w' ⟨rfl, ⟨nd, rfl⟩⟩; refine ⟨_, rfl, ?_⟩))
              go_ret2
              exact ⟨q175_, q120_⟩
            · rw [if_neg c12] at H
              have c12b0 : decide (a1 ≤ t343) = false := decide_eq_false c12
              clear c12
              replace H := Option.bind_eq_some_iff.mp H
              obtain ⟨t344, A130, H⟩ := H
              replace H : (some (t344, true)) = some (r1, r2) := H
              have A13 := Aside0.mk A130
              clear A130
              simp only [Option.some.injEq, Prod.mk.injEq] at H
              obtain ⟨rfl, rfl⟩ := H
              have e_same : t343 = t344 := Option.some.inj (A11.out.symm.trans A13.out)
              subst e_same
              go_wp2_with (first | ((with_reducible refine gate_callee (f := 59) rfl ?_); refine goesL_ (some 28) rfl rfl Try.func59 (by kernel_rfl) rfl #[.int .i64 a0, .int .i64 (wrap64 (2 * a1))] rfl q117_ ?_; (with_reducible refine (tilefarmref3_mod.calls a0 (wrap64 (2 * a1)) t343 _ A11.out).mono ?_); rintro e w' ⟨rfl, ⟨nd, rfl⟩⟩; refine ⟨_, rfl, ?_⟩) | ((with_reducible refine gate_callee (f := 59) rfl ?_); refine goesL_ (some 40) rfl rfl Try.func59 (by kernel_rfl) rfl #[.int .i64 a0, .int .i64 (wrap64 (2 * a1))] rfl q117_ ?_; (with_reducible refine (tilefarmref3_mod.calls a0 (wrap64 (2 * a1)) t343 _ A13.out).mono ?_); rintro e w' ⟨rfl, ⟨nd, rfl⟩⟩; refine ⟨_, rfl, ?_⟩))
              go_ret2
              exact ⟨q175_, q120_⟩
          · rw [if_neg c10] at H
            have c10b0 : (a2 == 1) = false := beq_eq_false_iff_ne.mpr c10
            have c10b1 : (a2 != 1) = true := bne_iff_ne.mpr c10
            by_cases c14 : a2 = 2
            · rw [if_pos c14] at H
              have c14b0 : (a2 == 2) = true := beq_iff_eq.mpr c14
              have c14b1 : (a2 != 2) = false := bne_eq_false_iff_eq.mpr c14
              clear c14
              replace H := Option.bind_eq_some_iff.mp H
              obtain ⟨t345, A150, H⟩ := H
              replace H : (some (t345, true)) = some (r1, r2) := H
              have A15 := Aside0.mk A150
              clear A150
              simp only [Option.some.injEq, Prod.mk.injEq] at H
              obtain ⟨rfl, rfl⟩ := H
              go_wp2_with (first | ((with_reducible refine gate_callee (f := 59) rfl ?_); refine goesL_ (some 45) rfl rfl Try.func59 (by kernel_rfl) rfl #[.int .i64 a0, .int .i64 a1] rfl q117_ ?_; (with_reducible refine (tilefarmref3_mod.calls a0 a1 t345 _ A15.out).mono ?_); rintro e w' ⟨rfl, ⟨nd, rfl⟩⟩; refine ⟨_, rfl, ?_⟩))
              go_ret2
              exact ⟨q175_, q120_⟩
            · rw [if_neg c14] at H
              have c14b0 : (a2 == 2) = false := beq_eq_false_iff_ne.mpr c14
              have c14b1 : (a2 != 2) = true := bne_iff_ne.mpr c14
              by_cases c16 : a2 = 3
              · rw [if_pos c16] at H
                have c16b0 : (a2 == 3) = true := beq_iff_eq.mpr c16
                have c16b1 : (a2 != 3) = false := bne_eq_false_iff_eq.mpr c16
                clear c16
                by_cases c17 : a0 ≥ 0
                · rw [if_pos c17] at H
                  have c17b0 : decide (0 ≤ a0) = true := decide_eq_true c17
                  clear c17
                  by_cases c18 : a0 < a1
                  · rw [if_pos c18] at H
                    have c18b0 : decide (a0 < a1) = true := decide_eq_true c18
                    clear c18
                    simp only [Option.some.injEq, Prod.mk.injEq] at H
                    obtain ⟨rfl, rfl⟩ := H
                    go_wp2
                    go_ret2
                    exact ⟨q175_, q120_⟩
                  · rw [if_neg c18] at H
                    have c18b0 : decide (a0 < a1) = false := decide_eq_false c18
                    clear c18
                    simp only [Option.some.injEq, Prod.mk.injEq] at H
                    obtain ⟨rfl, rfl⟩ := H
                    go_wp2
                    go_ret2
                    exact ⟨q175_, q120_⟩
                · rw [if_neg c17] at H
                  have c17b0 : decide (0 ≤ a0) = false := decide_eq_false c17
                  clear c17
                  simp only [Option.some.injEq, Prod.mk.injEq] at H
                  obtain ⟨rfl, rfl⟩ := H
                  go_wp2
                  go_ret2
                  exact ⟨q175_, q120_⟩
              · rw [if_neg c16] at H
                have c16b0 : (a2 == 3) = false := beq_eq_false_iff_ne.mpr c16
                have c16b1 : (a2 != 3) = true := bne_iff_ne.mpr c16
                simp only [Option.some.injEq, Prod.mk.injEq] at H
                obtain ⟨rfl, rfl⟩ := H
                go_wp2
                go_ret2
                exact ⟨q175_, q120_⟩


def tilefarmref4_Pixel.f (k : Nat) (a0_0 : Int) (a0_1 : Int) (a0_2 : Int) (l0_3 : List Int) (a1_0 : Int) (a1_1 : Int) (a2 : Int) (a3 : Int) : Option (Int) := (tilefarmref3_Index.f k a2 a0_0 a1_0).bind fun bt348 => ((tilefarmref3_Index.f k a3 a0_1 a1_0).bind fun bt350 => (if bt348.2 = true then (if bt350.2 = true then (if 0 ≤ (wrap64 ((wrap64 (bt350.1 * a0_0)) + bt348.1)) then (if (wrap64 ((wrap64 (bt350.1 * a0_0)) + bt348.1)) < (l0_3.length : Int) then (some (rd l0_3 (wrap64 ((wrap64 (bt350.1 * a0_0)) + bt348.1)))) else (none)) else (none)) else (some a1_1)) else (some a1_1)))
theorem tilefarmref4_Pixel.mono : ∀ a0 a1 a2 a3 a4 a5 a6 a7 k, LeO (tilefarmref4_Pixel.f k a0 a1 a2 a3 a4 a5 a6 a7) (tilefarmref4_Pixel.f (k + 1) a0 a1 a2 a3 a4 a5 a6 a7) := by
  intro a0 a1 a2 a3 a4 a5 a6 a7 k
  unfold tilefarmref4_Pixel.f
  repeat' first
      | (with_reducible exact tilefarmref3_Index.mono _ _ _ _)
      | (with_reducible exact LeO.refl _)
      | (with_reducible exact LeO.none _)
      | (with_reducible refine LeO.ite ?_ ?_)
      | (with_reducible refine LeO.bind ?_ (fun _ => ?_))
      | exact tilefarmref3_Index.mono _ _ _ _
      | exact LeO.none _
      | refine LeO.ite ?_ ?_
      | refine LeO.bind ?_ (fun _ => ?_)
set_option maxHeartbeats 8000000 in
set_option maxRecDepth 100000 in
theorem tilefarmref4_Pixel.calls (k : Nat) (a0_0 : Int) (a0_1 : Int) (a0_2 : Int) (A0_3 : Option Addr) (c0_3 : Nat) (l0_3 : List Int) (a1_0 : Int) (a1_1 : Int) (a2 : Int) (a3 : Int) (r : Int) (w : World) (hr0_3 : Kd.C (Kd.int .i64) w A0_3 l0_3.length l0_3) (hc0_3 : l0_3.length ≤ c0_3) (h : tilefarmref4_Pixel.f k a0_0 a0_1 a0_2 l0_3 a1_0 a1_1 a2 a3 = some r) :
    Calls Try.prog 46 #[.agg #[.int .i64 a0_0, .int .i64 a0_1, .int .i64 a0_2, .slice A0_3 l0_3.length c0_3], .agg #[.int .i64 a1_0, .int .i64 a1_1], .int .i64 a2, .int .i64 a3] w fun e w' => e = .returned (.int .i64 r) ∧ Below w.heap.size w w' := by
  have hu26 := Try.underlying26
  have hu45 := Try.underlying45
  have HR0_3 := Aside0.mk hr0_3
  have HC0_3 := Aside0.mk hc0_3
  clear hr0_3 hc0_3
  have HB := Aside0.mk (Below.refl w.heap.size w)
  have H : ((tilefarmref3_Index.f k a2 a0_0 a1_0).bind fun bt348 => ((tilefarmref3_Index.f k a3 a0_1 a1_0).bind fun bt350 => (if bt348.2 = true then (if bt350.2 = true then (if 0 ≤ (wrap64 ((wrap64 (bt350.1 * a0_0)) + bt348.1)) then (if (wrap64 ((wrap64 (bt350.1 * a0_0)) + bt348.1)) < (l0_3.length : Int) then (some (rd l0_3 (wrap64 ((wrap64 (bt350.1 * a0_0)) + bt348.1)))) else (none)) else (none)) else (some a1_1)) else (some a1_1)))) = some r := h
  clear h
  replace H := Option.bind_eq_some_iff.mp H
  obtain ⟨⟨t348, t349⟩, A50, H⟩ := H
  replace H : ((tilefarmref3_Index.f k a3 a0_1 a1_0).bind fun bt350 => (if t349 = true then (if bt350.2 = true then (if 0 ≤ (wrap64 ((wrap64 (bt350.1 * a0_0)) + t348)) then (if (wrap64 ((wrap64 (bt350.1 * a0_0)) + t348)) < (l0_3.length : Int) then (some (rd l0_3 (wrap64 ((wrap64 (bt350.1 * a0_0)) + t348)))) else (none)) else (none)) else (some a1_1)) else (some a1_1))) = some r := H
  have A5 := Aside0.mk A50
  clear A50
  replace H := Option.bind_eq_some_iff.mp H
  obtain ⟨⟨t350, t351⟩, A60, H⟩ := H
  replace H : (if t349 = true then (if t351 = true then (if 0 ≤ (wrap64 ((wrap64 (t350 * a0_0)) + t348)) then (if (wrap64 ((wrap64 (t350 * a0_0)) + t348)) < (l0_3.length : Int) then (some (rd l0_3 (wrap64 ((wrap64 (t350 * a0_0)) + t348)))) else (none)) else (none)) else (some a1_1)) else (some a1_1)) = some r := H
  have A6 := Aside0.mk A60
  clear A60
  by_cases c7 : t349 = true
  · subst c7
    have H1 : (if t351 = true then (if 0 ≤ (wrap64 ((wrap64 (t350 * a0_0)) + t348)) then (if (wrap64 ((wrap64 (t350 * a0_0)) + t348)) < (l0_3.length : Int) then (some (rd l0_3 (wrap64 ((wrap64 (t350 * a0_0)) + t348)))) else (none)) else (none)) else (some a1_1)) = some r := by rw [if_pos rfl] at H; exact H
    clear H
    have H := H1
    clear H1
    by_cases c8 : t351 = true
    · subst c8
      have H1 : (if 0 ≤ (wrap64 ((wrap64 (t350 * a0_0)) + t348)) then (if (wrap64 ((wrap64 (t350 * a0_0)) + t348)) < (l0_3.length : Int) then (some (rd l0_3 (wrap64 ((wrap64 (t350 * a0_0)) + t348)))) else (none)) else (none)) = some r := by rw [if_pos rfl] at H; exact H
      clear H
      have H := H1
      clear H1
      obtain ⟨ji9, hji9⟩ : ∃ j_ : Int, (wrap64 ((wrap64 (t350 * a0_0)) + t348)) = j_ := ⟨_, rfl⟩
      replace H : (if 0 ≤ (ji9) then (if (ji9) < (l0_3.length : Int) then (some (rd l0_3 (ji9))) else (none)) else (none)) = some r := by first | (rw [hji9] at H; exact H) | (simp only [hji9] at H ⊢; exact H)
      (try rw [hji9] at A5)
      (try rw [hji9] at A6)
      have hji9w : (IntKind.i64.wrap ((wrap64 (t350 * a0_0)) + t348)) = ji9 := (i64_w _).trans hji9
      by_cases c10 : 0 ≤ (ji9)
      · rw [if_pos c10] at H
        have c10b0 : decide (0 ≤ (ji9)) = true := decide_eq_true c10
        clear c10
        by_cases c11 : (ji9) < (l0_3.length : Int)
        · rw [if_pos c11] at H
          have c11b0 : decide ((ji9) < (l0_3.length : Int)) = true := decide_eq_true c11
          clear c11
          obtain rfl := Option.some.inj H
          go_enter Try.func46, Try.ntmps46
          go_wp2_with (first | ((with_reducible refine gate_dst (N := 4) rfl ?_); refine box_event ?hg (N := 4) ?hd (cs := #[.int .i64 a0_0, .int .i64 a0_1, .int .i64 a0_2, .slice A0_3 l0_3.length c0_3]) (t := 26) ?hr ?_; (case hd => rfl); (case hg => rfl); (case hr => first | (go_simp; done) | (go_simp; rfl)); intro gb346 hg w12 hbox hb; have n0_ := Aside0.mk (below_step q120_ hb); have n1_ := Aside0.mk (hbox); have n2_ := Aside0.mk ((q95_ : w.heap.size ≤ gb346)); have n3_ := Aside0.mk ((q95_ : w.heap.size ≤ gb346)); clear HB; have HB := n0_; have BK346 := n1_; have GW346 := n2_; have GE346 := n3_; clear n0_ n1_ n2_ n3_; clear hb hbox hg) | ((with_reducible refine gate_dst (N := 5) rfl ?_); refine box_event ?hg (N := 5) ?hd (cs := #[.int .i64 a1_0, .int .i64 a1_1]) (t := 45) ?hr ?_; (case hd => rfl); (case hg => rfl); (case hr => first | (go_simp; done) | (go_simp; rfl)); intro gb347 hg w13 hbox hb; have n0_ := Aside0.mk (blk_below (g := gb346) (o := .cells #[.int .i64 a0_0, .int .i64 a0_1, .int .i64 a0_2, .slice A0_3 l0_3.length c0_3] 26 (0, 0)) q152_ hb); have n1_ := Aside0.mk (below_step q112_ hb); have n2_ := Aside0.mk (hbox); have n3_ := Aside0.mk ((q71_ : w.heap.size ≤ gb347)); have n4_ := Aside0.mk ((q71_ : w.heap.size ≤ gb347)); have n5_ := Aside0.mk ((q17_ : gb346 ≠ gb347)); have n6_ := Aside0.mk ((q18_ : gb347 ≠ gb346)); clear BK346; clear HB; have BK346 := n0_; have HB := n1_; have BK347 := n2_; have GW347 := n3_; have GE347 := n4_; have NB346_347 := n5_; have NB347_346 := n6_; clear n0_ n1_ n2_ n3_ n4_ n5_ n6_; clear hb hbox hg; have hnb14 := NB346_347.out; have hnc14 := NB347_346.out; have hcz15_0 : w13.cell? ⟨gb346, 0, none⟩ = some (.int .i64 a0_0) := (blk_cell BK346.out 0).trans rfl; have hcz15_1 : w13.cell? ⟨gb346, 1, none⟩ = some (.int .i64 a0_1) := (blk_cell BK346.out 1).trans rfl; have hcz15_2 : w13.cell? ⟨gb346, 2, none⟩ = some (.int .i64 a0_2) := (blk_cell BK346.out 2).trans rfl; have hcz15_3 : w13.cell? ⟨gb346, 3, none⟩ = some (.slice A0_3 l0_3.length c0_3) := (blk_cell BK346.out 3).trans rfl; have hfz15_0 := blk_frozen BK346.out 0; have hfz15_1 := blk_frozen BK346.out 1; have hfz15_2 := blk_frozen BK346.out 2; have hfz15_3 := blk_frozen BK346.out 3; have hcz16_0 : w13.cell? ⟨gb347, 0, none⟩ = some (.int .i64 a1_0) := (blk_cell BK347.out 0).trans rfl; have hcz16_1 : w13.cell? ⟨gb347, 1, none⟩ = some (.int .i64 a1_1) := (blk_cell BK347.out 1).trans rfl; have hfz16_0 := blk_frozen BK347.out 0; have hfz16_1 := blk_frozen BK347.out 1) | ((with_reducible refine gate_callee (f := 55) rfl ?_); refine goesL_ (some 19) rfl rfl Try.func55 (by kernel_rfl) rfl #[.int .i64 a2, .int .i64 a0_0, .int .i64 a1_0] rfl q117_ ?_; (with_reducible refine (tilefarmref3_Index.calls k a2 a0_0 a1_0 t348 true _ A5.out).mono ?_); rintro e w17 ⟨rfl, hb⟩; refine ⟨_, rfl, ?_⟩; have n0_ := Aside0.mk (blk_below (g := gb346) (o := .cells #[.int .i64 a0_0, .int .i64 a0_1, .int .i64 a0_2, .slice A0_3 l0_3.length c0_3] 26 (0, 0)) q152_ hb); have n1_ := Aside0.mk (blk_below (g := gb347) (o := .cells #[.int .i64 a1_0, .int .i64 a1_1] 45 (0, 0)) q153_ hb); have n2_ := Aside0.mk (below_step q81_ hb); clear BK346; clear BK347; clear HB; have BK346 := n0_; have BK347 := n1_; have HB := n2_; clear n0_ n1_ n2_; (try clear hb); (try clear hb2); (try clear hk); (try clear hi); have hcz18_0 : w17.cell? ⟨gb346, 0, none⟩ = some (.int .i64 a0_0) := (blk_cell BK346.out 0).trans rfl; have hcz18_1 : w17.cell? ⟨gb346, 1, none⟩ = some (.int .i64 a0_1) := (blk_cell BK346.out 1).trans rfl; have hcz18_2 : w17.cell? ⟨gb346, 2, none⟩ = some (.int .i64 a0_2) := (blk_cell BK346.out 2).trans rfl; have hcz18_3 : w17.cell? ⟨gb346, 3, none⟩ = some (.slice A0_3 l0_3.length c0_3) := (blk_cell BK346.out 3).trans rfl; have hfz18_0 := blk_frozen BK346.out 0; have hfz18_1 := blk_frozen BK346.out 1; have hfz18_2 := blk_frozen BK346.out 2; have hfz18_3 := blk_frozen BK346.out 3; have hcz19_0 : w17.cell? ⟨gb347, 0, none⟩ = some (.int .i64 a1_0) := (blk_cell BK347.out 0).trans rfl; have hcz19_1 : w17.cell? ⟨gb347, 1, none⟩ = some (.int .i64 a1_1) := (blk_cell BK347.out 1).trans rfl; have hfz19_0 := blk_frozen BK347.out 0; have hfz19_1 := blk_frozen BK347.out 1) | ((with_reducible refine gate_callee (f := 55) rfl ?_); refine goesL_ (some 28) rfl rfl Try.func55 (by kernel_rfl) rfl #[.int .i64 a3, .int .i64 a0_1, .int .i64 a1_0] rfl q117_ ?_; (with_reducible refine (tilefarmref3_Index.calls k a3 a0_1 a1_0 t350 true _ A6.out).mono ?_); rintro e w20 ⟨rfl, hb⟩; refine ⟨_, rfl, ?_⟩; have n0_ := Aside0.mk (blk_below (g := gb346) (o := .cells #[.int .i64 a0_0, .int .i64 a0_1, .int .i64 a0_2, .slice A0_3 l0_3.length c0_3] 26 (0, 0)) q152_ hb); have n1_ := Aside0.mk (blk_below (g := gb347) (o := .cells #[.int .i64 a1_0, .int .i64 a1_1] 45 (0, 0)) q153_ hb); have n2_ := Aside0.mk (below_step q81_ hb); clear BK346; clear BK347; clear HB; have BK346 := n0_; have BK347 := n1_; have HB := n2_; clear n0_ n1_ n2_; (try clear hb); (try clear hb2); (try clear hk); (try clear hi); have hcz21_0 : w20.cell? ⟨gb346, 0, none⟩ = some (.int .i64 a0_0) := (blk_cell BK346.out 0).trans rfl; have hcz21_1 : w20.cell? ⟨gb346, 1, none⟩ = some (.int .i64 a0_1) := (blk_cell BK346.out 1).trans rfl; have hcz21_2 : w20.cell? ⟨gb346, 2, none⟩ = some (.int .i64 a0_2) := (blk_cell BK346.out 2).trans rfl; have hcz21_3 : w20.cell? ⟨gb346, 3, none⟩ = some (.slice A0_3 l0_3.length c0_3) := (blk_cell BK346.out 3).trans rfl; have hfz21_0 := blk_frozen BK346.out 0; have hfz21_1 := blk_frozen BK346.out 1; have hfz21_2 := blk_frozen BK346.out 2; have hfz21_3 := blk_frozen BK346.out 3; have p352 : 0 ≤ ((ji9) : Int) := of_decide_eq_true q177_; have q352 : (ji9) < (l0_3.length : Int) := of_decide_eq_true q177_; obtain ⟨ad352, e352, hx352_0⟩ := Kd.at_int HR0_3.out (ji9) p352 q352; cases e352; replace hx352_0 := (HB.out.cell (World.block_lt_of_cell? w _ hx352_0)).trans hx352_0; replace p352 := eq_true p352; replace q352 := eq_true q352))
          go_ret
          exact ⟨by first | rfl | (simp [errW_none, errW_some] <;> rfl) | (simp only [← hji9]; first | rfl | (simp [errW_none, errW_some] <;> rfl)) | (simp [*, errW_none, errW_some] <;> rfl), q81_⟩
        · rw [if_neg c11] at H
          exact absurd H (by simp)
      · rw [if_neg c10] at H
        exact absurd H (by simp)
    · replace c8 := Bool.eq_false_iff.mpr c8
      subst c8
      have H1 : (some a1_1) = some r := by rw [if_neg (show ¬ (false = true) by decide)] at H; exact H
      clear H
      have H := H1
      clear H1
      obtain rfl := Option.some.inj H
      go_enter Try.func46, Try.ntmps46
      go_wp2_with (first | ((with_reducible refine gate_dst (N := 4) rfl ?_); refine box_event ?hg (N := 4) ?hd (cs := #[.int .i64 a0_0, .int .i64 a0_1, .int .i64 a0_2, .slice A0_3 l0_3.length c0_3]) (t := 26) ?hr ?_; (case hd => rfl); (case hg => rfl); (case hr => first | (go_simp; done) | (go_simp; rfl)); intro gb346 hg w22 hbox hb; have n0_ := Aside0.mk (below_step q120_ hb); have n1_ := Aside0.mk (hbox); have n2_ := Aside0.mk ((q95_ : w.heap.size ≤ gb346)); have n3_ := Aside0.mk ((q95_ : w.heap.size ≤ gb346)); clear HB; have HB := n0_; have BK346 := n1_; have GW346 := n2_; have GE346 := n3_; clear n0_ n1_ n2_ n3_; clear hb hbox hg) | ((with_reducible refine gate_dst (N := 5) rfl ?_); refine box_event ?hg (N := 5) ?hd (cs := #[.int .i64 a1_0, .int .i64 a1_1]) (t := 45) ?hr ?_; (case hd => rfl); (case hg => rfl); (case hr => first | (go_simp; done) | (go_simp; rfl)); intro gb347 hg w23 hbox hb; have n0_ := Aside0.mk (blk_below (g := gb346) (o := .cells #[.int .i64 a0_0, .int .i64 a0_1, .int .i64 a0_2, .slice A0_3 l0_3.length c0_3] 26 (0, 0)) q152_ hb); have n1_ := Aside0.mk (below_step q112_ hb); have n2_ := Aside0.mk (hbox); have n3_ := Aside0.mk ((q71_ : w.heap.size ≤ gb347)); have n4_ := Aside0.mk ((q71_ : w.heap.size ≤ gb347)); have n5_ := Aside0.mk ((q17_ : gb346 ≠ gb347)); have n6_ := Aside0.mk ((q18_ : gb347 ≠ gb346)); clear BK346; clear HB; have BK346 := n0_; have HB := n1_; have BK347 := n2_; have GW347 := n3_; have GE347 := n4_; have NB346_347 := n5_; have NB347_346 := n6_; clear n0_ n1_ n2_ n3_ n4_ n5_ n6_; clear hb hbox hg; have hnb24 := NB346_347.out; have hnc24 := NB347_346.out; have hcz25_0 : w23.cell? ⟨gb346, 0, none⟩ = some (.int .i64 a0_0) := (blk_cell BK346.out 0).trans rfl; have hcz25_1 : w23.cell? ⟨gb346, 1, none⟩ = some (.int .i64 a0_1) := (blk_cell BK346.out 1).trans rfl; have hcz25_2 : w23.cell? ⟨gb346, 2, none⟩ = some (.int .i64 a0_2) := (blk_cell BK346.out 2).trans rfl; have hcz25_3 : w23.cell? ⟨gb346, 3, none⟩ = some (.slice A0_3 l0_3.length c0_3) := (blk_cell BK346.out 3).trans rfl; have hfz25_0 := blk_frozen BK346.out 0; have hfz25_1 := blk_frozen BK346.out 1; have hfz25_2 := blk_frozen BK346.out 2; have hfz25_3 := blk_frozen BK346.out 3; have hcz26_0 : w23.cell? ⟨gb347, 0, none⟩ = some (.int .i64 a1_0) := (blk_cell BK347.out 0).trans rfl; have hcz26_1 : w23.cell? ⟨gb347, 1, none⟩ = some (.int .i64 a1_1) := (blk_cell BK347.out 1).trans rfl; have hfz26_0 := blk_frozen BK347.out 0; have hfz26_1 := blk_frozen BK347.out 1) | ((with_reducible refine gate_callee (f := 55) rfl ?_); refine goesL_ (some 19) rfl rfl Try.func55 (by kernel_rfl) rfl #[.int .i64 a2, .int .i64 a0_0, .int .i64 a1_0] rfl q117_ ?_; (with_reducible refine (tilefarmref3_Index.calls k a2 a0_0 a1_0 t348 true _ A5.out).mono ?_); rintro e w27 ⟨rfl, hb⟩; refine ⟨_, rfl, ?_⟩; have n0_ := Aside0.mk (blk_below (g := gb346) (o := .cells #[.int .i64 a0_0, .int .i64 a0_1, .int .i64 a0_2, .slice A0_3 l0_3.length c0_3] 26 (0, 0)) q152_ hb); have n1_ := Aside0.mk (blk_below (g := gb347) (o := .cells #[.int .i64 a1_0, .int .i64 a1_1] 45 (0, 0)) q153_ hb); have n2_ := Aside0.mk (below_step q81_ hb); clear BK346; clear BK347; clear HB; have BK346 := n0_; have BK347 := n1_; have HB := n2_; clear n0_ n1_ n2_; (try clear hb); (try clear hb2); (try clear hk); (try clear hi); have hcz28_0 : w27.cell? ⟨gb346, 0, none⟩ = some (.int .i64 a0_0) := (blk_cell BK346.out 0).trans rfl; have hcz28_1 : w27.cell? ⟨gb346, 1, none⟩ = some (.int .i64 a0_1) := (blk_cell BK346.out 1).trans rfl; have hcz28_2 : w27.cell? ⟨gb346, 2, none⟩ = some (.int .i64 a0_2) := (blk_cell BK346.out 2).trans rfl; have hcz28_3 : w27.cell? ⟨gb346, 3, none⟩ = some (.slice A0_3 l0_3.length c0_3) := (blk_cell BK346.out 3).trans rfl; have hfz28_0 := blk_frozen BK346.out 0; have hfz28_1 := blk_frozen BK346.out 1; have hfz28_2 := blk_frozen BK346.out 2; have hfz28_3 := blk_frozen BK346.out 3; have hcz29_0 : w27.cell? ⟨gb347, 0, none⟩ = some (.int .i64 a1_0) := (blk_cell BK347.out 0).trans rfl; have hcz29_1 : w27.cell? ⟨gb347, 1, none⟩ = some (.int .i64 a1_1) := (blk_cell BK347.out 1).trans rfl; have hfz29_0 := blk_frozen BK347.out 0; have hfz29_1 := blk_frozen BK347.out 1) | ((with_reducible refine gate_callee (f := 55) rfl ?_); refine goesL_ (some 28) rfl rfl Try.func55 (by kernel_rfl) rfl #[.int .i64 a3, .int .i64 a0_1, .int .i64 a1_0] rfl q117_ ?_; (with_reducible refine (tilefarmref3_Index.calls k a3 a0_1 a1_0 t350 false _ A6.out).mono ?_); rintro e w30 ⟨rfl, hb⟩; refine ⟨_, rfl, ?_⟩; have n0_ := Aside0.mk (blk_below (g := gb346) (o := .cells #[.int .i64 a0_0, .int .i64 a0_1, .int .i64 a0_2, .slice A0_3 l0_3.length c0_3] 26 (0, 0)) q152_ hb); have n1_ := Aside0.mk (blk_below (g := gb347) (o := .cells #[.int .i64 a1_0, .int .i64 a1_1] 45 (0, 0)) q153_ hb); have n2_ := Aside0.mk (below_step q81_ hb); clear BK346; clear BK347; clear HB; have BK346 := n0_; have BK347 := n1_; have HB := n2_; clear n0_ n1_ n2_; (try clear hb); (try clear hb2); (try clear hk); (try clear hi); have hcz31_0 : w30.cell? ⟨gb347, 0, none⟩ = some (.int .i64 a1_0) := (blk_cell BK347.out 0).trans rfl; have hcz31_1 : w30.cell? ⟨gb347, 1, none⟩ = some (.int .i64 a1_1) := (blk_cell BK347.out 1).trans rfl; have hfz31_0 := blk_frozen BK347.out 0; have hfz31_1 := blk_frozen BK347.out 1))
      go_ret
      exact ⟨q175_, q81_⟩
  · replace c7 := Bool.eq_false_iff.mpr c7
    subst c7
    have H1 : (some a1_1) = some r := by rw [if_neg (show ¬ (false = true) by decide)] at H; exact H
    clear H
    have H := H1
    clear H1
    obtain rfl := Option.some.inj H
    go_enter Try.func46, Try.ntmps46
    go_wp2_with (first | ((with_reducible refine gate_dst (N := 4) rfl ?_); refine box_event ?hg (N := 4) ?hd (cs := #[.int .i64 a0_0, .int .i64 a0_1, .int .i64 a0_2, .slice A0_3 l0_3.length c0_3]) (t := 26) ?hr ?_; (case hd => rfl); (case hg => rfl); (case hr => first | (go_simp; done) | (go_simp; rfl)); intro gb346 hg w32 hbox hb; have n0_ := Aside0.mk (below_step q120_ hb); have n1_ := Aside0.mk (hbox); have n2_ := Aside0.mk ((q95_ : w.heap.size ≤ gb346)); have n3_ := Aside0.mk ((q95_ : w.heap.size ≤ gb346)); clear HB; have HB := n0_; have BK346 := n1_; have GW346 := n2_; have GE346 := n3_; clear n0_ n1_ n2_ n3_; clear hb hbox hg) | ((with_reducible refine gate_dst (N := 5) rfl ?_); refine box_event ?hg (N := 5) ?hd (cs := #[.int .i64 a1_0, .int .i64 a1_1]) (t := 45) ?hr ?_; (case hd => rfl); (case hg => rfl); (case hr => first | (go_simp; done) | (go_simp; rfl)); intro gb347 hg w33 hbox hb; have n0_ := Aside0.mk (blk_below (g := gb346) (o := .cells #[.int .i64 a0_0, .int .i64 a0_1, .int .i64 a0_2, .slice A0_3 l0_3.length c0_3] 26 (0, 0)) q152_ hb); have n1_ := Aside0.mk (below_step q112_ hb); have n2_ := Aside0.mk (hbox); have n3_ := Aside0.mk ((q71_ : w.heap.size ≤ gb347)); have n4_ := Aside0.mk ((q71_ : w.heap.size ≤ gb347)); have n5_ := Aside0.mk ((q17_ : gb346 ≠ gb347)); have n6_ := Aside0.mk ((q18_ : gb347 ≠ gb346)); clear BK346; clear HB; have BK346 := n0_; have HB := n1_; have BK347 := n2_; have GW347 := n3_; have GE347 := n4_; have NB346_347 := n5_; have NB347_346 := n6_; clear n0_ n1_ n2_ n3_ n4_ n5_ n6_; clear hb hbox hg; have hnb34 := NB346_347.out; have hnc34 := NB347_346.out; have hcz35_0 : w33.cell? ⟨gb346, 0, none⟩ = some (.int .i64 a0_0) := (blk_cell BK346.out 0).trans rfl; have hcz35_1 : w33.cell? ⟨gb346, 1, none⟩ = some (.int .i64 a0_1) := (blk_cell BK346.out 1).trans rfl; have hcz35_2 : w33.cell? ⟨gb346, 2, none⟩ = some (.int .i64 a0_2) := (blk_cell BK346.out 2).trans rfl; have hcz35_3 : w33.cell? ⟨gb346, 3, none⟩ = some (.slice A0_3 l0_3.length c0_3) := (blk_cell BK346.out 3).trans rfl; have hfz35_0 := blk_frozen BK346.out 0; have hfz35_1 := blk_frozen BK346.out 1; have hfz35_2 := blk_frozen BK346.out 2; have hfz35_3 := blk_frozen BK346.out 3; have hcz36_0 : w33.cell? ⟨gb347, 0, none⟩ = some (.int .i64 a1_0) := (blk_cell BK347.out 0).trans rfl; have hcz36_1 : w33.cell? ⟨gb347, 1, none⟩ = some (.int .i64 a1_1) := (blk_cell BK347.out 1).trans rfl; have hfz36_0 := blk_frozen BK347.out 0; have hfz36_1 := blk_frozen BK347.out 1) | ((with_reducible refine gate_callee (f := 55) rfl ?_); refine goesL_ (some 19) rfl rfl Try.func55 (by kernel_rfl) rfl #[.int .i64 a2, .int .i64 a0_0, .int .i64 a1_0] rfl q117_ ?_; (with_reducible refine (tilefarmref3_Index.calls k a2 a0_0 a1_0 t348 false _ A5.out).mono ?_); rintro e w37 ⟨rfl, hb⟩; refine ⟨_, rfl, ?_⟩; have n0_ := Aside0.mk (blk_below (g := gb346) (o := .cells #[.int .i64 a0_0, .int .i64 a0_1, .int .i64 a0_2, .slice A0_3 l0_3.length c0_3] 26 (0, 0)) q152_ hb); have n1_ := Aside0.mk (blk_below (g := gb347) (o := .cells #[.int .i64 a1_0, .int .i64 a1_1] 45 (0, 0)) q153_ hb); have n2_ := Aside0.mk (below_step q81_ hb); clear BK346; clear BK347; clear HB; have BK346 := n0_; have BK347 := n1_; have HB := n2_; clear n0_ n1_ n2_; (try clear hb); (try clear hb2); (try clear hk); (try clear hi); have hcz38_0 : w37.cell? ⟨gb346, 0, none⟩ = some (.int .i64 a0_0) := (blk_cell BK346.out 0).trans rfl; have hcz38_1 : w37.cell? ⟨gb346, 1, none⟩ = some (.int .i64 a0_1) := (blk_cell BK346.out 1).trans rfl; have hcz38_2 : w37.cell? ⟨gb346, 2, none⟩ = some (.int .i64 a0_2) := (blk_cell BK346.out 2).trans rfl; have hcz38_3 : w37.cell? ⟨gb346, 3, none⟩ = some (.slice A0_3 l0_3.length c0_3) := (blk_cell BK346.out 3).trans rfl; have hfz38_0 := blk_frozen BK346.out 0; have hfz38_1 := blk_frozen BK346.out 1; have hfz38_2 := blk_frozen BK346.out 2; have hfz38_3 := blk_frozen BK346.out 3; have hcz39_0 : w37.cell? ⟨gb347, 0, none⟩ = some (.int .i64 a1_0) := (blk_cell BK347.out 0).trans rfl; have hcz39_1 : w37.cell? ⟨gb347, 1, none⟩ = some (.int .i64 a1_1) := (blk_cell BK347.out 1).trans rfl; have hfz39_0 := blk_frozen BK347.out 0; have hfz39_1 := blk_frozen BK347.out 1) | ((with_reducible refine gate_callee (f := 55) rfl ?_); refine goesL_ (some 28) rfl rfl Try.func55 (by kernel_rfl) rfl #[.int .i64 a3, .int .i64 a0_1, .int .i64 a1_0] rfl q117_ ?_; (with_reducible refine (tilefarmref3_Index.calls k a3 a0_1 a1_0 t350 t351 _ A6.out).mono ?_); rintro e w40 ⟨rfl, hb⟩; refine ⟨_, rfl, ?_⟩; have n0_ := Aside0.mk (blk_below (g := gb346) (o := .cells #[.int .i64 a0_0, .int .i64 a0_1, .int .i64 a0_2, .slice A0_3 l0_3.length c0_3] 26 (0, 0)) q152_ hb); have n1_ := Aside0.mk (blk_below (g := gb347) (o := .cells #[.int .i64 a1_0, .int .i64 a1_1] 45 (0, 0)) q153_ hb); have n2_ := Aside0.mk (below_step q81_ hb); clear BK346; clear BK347; clear HB; have BK346 := n0_; have BK347 := n1_; have HB := n2_; clear n0_ n1_ n2_; (try clear hb); (try clear hb2); (try clear hk); (try clear hi); have hcz41_0 : w40.cell? ⟨gb347, 0, none⟩ = some (.int .i64 a1_0) := (blk_cell BK347.out 0).trans rfl; have hcz41_1 : w40.cell? ⟨gb347, 1, none⟩ = some (.int .i64 a1_1) := (blk_cell BK347.out 1).trans rfl; have hfz41_0 := blk_frozen BK347.out 0; have hfz41_1 := blk_frozen BK347.out 1))
    go_ret
    exact ⟨q175_, q81_⟩


def tilefarmref4_At.f (k : Nat) (a0_0 : Int) (a0_1 : Int) (a0_2 : Int) (l0_3 : List Int) (a1_0 : Int) (a1_1 : Int) (a2 : Int) (a3 : Int) : Option (Int) := (tilefarmref4_Valid.f k a0_0 a0_1 a0_2 l0_3).bind fun t355 => (if t355 = true then ((tilefarmref3_Valid.f a1_0 a1_1 a0_2).bind fun t356 => (if t356 = true then ((tilefarmref4_Pixel.f k a0_0 a0_1 a0_2 l0_3 a1_0 a1_1 a2 a3).bind fun t357 => (some t357)) else (some 0))) else (some 0))
theorem tilefarmref4_At.mono : ∀ a0 a1 a2 a3 a4 a5 a6 a7 k, LeO (tilefarmref4_At.f k a0 a1 a2 a3 a4 a5 a6 a7) (tilefarmref4_At.f (k + 1) a0 a1 a2 a3 a4 a5 a6 a7) := by
  intro a0 a1 a2 a3 a4 a5 a6 a7 k
  unfold tilefarmref4_At.f
  repeat' first
      | (with_reducible exact tilefarmref4_Pixel.mono _ _ _ _ _ _ _ _ _)
      | (with_reducible exact tilefarmref4_Valid.mono _ _ _ _ _)
      | (with_reducible exact LeO.refl _)
      | (with_reducible exact LeO.none _)
      | (with_reducible refine LeO.ite ?_ ?_)
      | (with_reducible refine LeO.bind ?_ (fun _ => ?_))
      | exact tilefarmref4_Pixel.mono _ _ _ _ _ _ _ _ _
      | exact tilefarmref4_Valid.mono _ _ _ _ _
      | exact LeO.none _
      | refine LeO.ite ?_ ?_
      | refine LeO.bind ?_ (fun _ => ?_)
set_option maxHeartbeats 8000000 in
set_option maxRecDepth 100000 in
theorem tilefarmref4_At.calls (k : Nat) (a0_0 : Int) (a0_1 : Int) (a0_2 : Int) (A0_3 : Option Addr) (c0_3 : Nat) (l0_3 : List Int) (a1_0 : Int) (a1_1 : Int) (a2 : Int) (a3 : Int) (r : Int) (w : World) (hr0_3 : Kd.C (Kd.int .i64) w A0_3 l0_3.length l0_3) (hc0_3 : l0_3.length ≤ c0_3) (h : tilefarmref4_At.f k a0_0 a0_1 a0_2 l0_3 a1_0 a1_1 a2 a3 = some r) :
    Calls Try.prog 27 #[.agg #[.int .i64 a0_0, .int .i64 a0_1, .int .i64 a0_2, .slice A0_3 l0_3.length c0_3], .agg #[.int .i64 a1_0, .int .i64 a1_1], .int .i64 a2, .int .i64 a3] w fun e w' => e = .returned (.int .i64 r) ∧ Below w.heap.size w w' := by
  have hu26 := Try.underlying26
  have hu45 := Try.underlying45
  have HR0_3 := Aside0.mk hr0_3
  have HC0_3 := Aside0.mk hc0_3
  clear hr0_3 hc0_3
  have HB := Aside0.mk (Below.refl w.heap.size w)
  have H : ((tilefarmref4_Valid.f k a0_0 a0_1 a0_2 l0_3).bind fun t355 => (if t355 = true then ((tilefarmref3_Valid.f a1_0 a1_1 a0_2).bind fun t356 => (if t356 = true then ((tilefarmref4_Pixel.f k a0_0 a0_1 a0_2 l0_3 a1_0 a1_1 a2 a3).bind fun t357 => (some t357)) else (some 0))) else (some 0))) = some r := h
  clear h
  replace H := Option.bind_eq_some_iff.mp H
  obtain ⟨t355, A50, H⟩ := H
  replace H : (if t355 = true then ((tilefarmref3_Valid.f a1_0 a1_1 a0_2).bind fun t356 => (if t356 = true then ((tilefarmref4_Pixel.f k a0_0 a0_1 a0_2 l0_3 a1_0 a1_1 a2 a3).bind fun t357 => (some t357)) else (some 0))) else (some 0)) = some r := H
  have A5 := Aside0.mk A50
  clear A50
  by_cases c6 : t355 = true
  · subst c6
    have H1 : ((tilefarmref3_Valid.f a1_0 a1_1 a0_2).bind fun t356 => (if t356 = true then ((tilefarmref4_Pixel.f k a0_0 a0_1 a0_2 l0_3 a1_0 a1_1 a2 a3).bind fun t357 => (some t357)) else (some 0))) = some r := by rw [if_pos rfl] at H; exact H
    clear H
    have H := H1
    clear H1
    replace H := Option.bind_eq_some_iff.mp H
    obtain ⟨t356, A70, H⟩ := H
    replace H : (if t356 = true then ((tilefarmref4_Pixel.f k a0_0 a0_1 a0_2 l0_3 a1_0 a1_1 a2 a3).bind fun t357 => (some t357)) else (some 0)) = some r := H
    have A7 := Aside0.mk A70
    clear A70
    by_cases c8 : t356 = true
    · subst c8
      have H1 : ((tilefarmref4_Pixel.f k a0_0 a0_1 a0_2 l0_3 a1_0 a1_1 a2 a3).bind fun t357 => (some t357)) = some r := by rw [if_pos rfl] at H; exact H
      clear H
      have H := H1
      clear H1
      replace H := Option.bind_eq_some_iff.mp H
      obtain ⟨t357, A90, H⟩ := H
      replace H : (some t357) = some r := H
      have A9 := Aside0.mk A90
      clear A90
      obtain rfl := Option.some.inj H
      go_enter Try.func27, Try.ntmps27
      go_wp2_with (first | ((with_reducible refine gate_dst (N := 4) rfl ?_); refine box_event ?hg (N := 4) ?hd (cs := #[.int .i64 a0_0, .int .i64 a0_1, .int .i64 a0_2, .slice A0_3 l0_3.length c0_3]) (t := 26) ?hr ?_; (case hd => rfl); (case hg => rfl); (case hr => first | (go_simp; done) | (go_simp; rfl)); intro gb353 hg w10 hbox hb; have n0_ := Aside0.mk (below_step q120_ hb); have n1_ := Aside0.mk (hbox); have n2_ := Aside0.mk ((q95_ : w.heap.size ≤ gb353)); have n3_ := Aside0.mk ((q95_ : w.heap.size ≤ gb353)); clear HB; have HB := n0_; have BK353 := n1_; have GW353 := n2_; have GE353 := n3_; clear n0_ n1_ n2_ n3_; clear hb hbox hg) | ((with_reducible refine gate_dst (N := 5) rfl ?_); refine box_event ?hg (N := 5) ?hd (cs := #[.int .i64 a1_0, .int .i64 a1_1]) (t := 45) ?hr ?_; (case hd => rfl); (case hg => rfl); (case hr => first | (go_simp; done) | (go_simp; rfl)); intro gb354 hg w11 hbox hb; have n0_ := Aside0.mk (blk_below (g := gb353) (o := .cells #[.int .i64 a0_0, .int .i64 a0_1, .int .i64 a0_2, .slice A0_3 l0_3.length c0_3] 26 (0, 0)) q154_ hb); have n1_ := Aside0.mk (below_step q113_ hb); have n2_ := Aside0.mk (hbox); have n3_ := Aside0.mk ((q72_ : w.heap.size ≤ gb354)); have n4_ := Aside0.mk ((q72_ : w.heap.size ≤ gb354)); have n5_ := Aside0.mk ((q19_ : gb353 ≠ gb354)); have n6_ := Aside0.mk ((q20_ : gb354 ≠ gb353)); clear BK353; clear HB; have BK353 := n0_; have HB := n1_; have BK354 := n2_; have GW354 := n3_; have GE354 := n4_; have NB353_354 := n5_; have NB354_353 := n6_; clear n0_ n1_ n2_ n3_ n4_ n5_ n6_; clear hb hbox hg; have hnb12 := NB353_354.out; have hnc12 := NB354_353.out; have hcz13_0 : w11.cell? ⟨gb353, 0, none⟩ = some (.int .i64 a0_0) := (blk_cell BK353.out 0).trans rfl; have hcz13_1 : w11.cell? ⟨gb353, 1, none⟩ = some (.int .i64 a0_1) := (blk_cell BK353.out 1).trans rfl; have hcz13_2 : w11.cell? ⟨gb353, 2, none⟩ = some (.int .i64 a0_2) := (blk_cell BK353.out 2).trans rfl; have hcz13_3 : w11.cell? ⟨gb353, 3, none⟩ = some (.slice A0_3 l0_3.length c0_3) := (blk_cell BK353.out 3).trans rfl; have hfz13_0 := blk_frozen BK353.out 0; have hfz13_1 := blk_frozen BK353.out 1; have hfz13_2 := blk_frozen BK353.out 2; have hfz13_3 := blk_frozen BK353.out 3) | ((with_reducible refine gate_callee (f := 16) rfl ?_); refine goesL_ (some 10) rfl rfl Try.func16 (by kernel_rfl) rfl #[.agg #[.int .i64 a0_0, .int .i64 a0_1, .int .i64 a0_2, .slice A0_3 l0_3.length c0_3]] rfl q117_ ?_; (with_reducible refine (tilefarmref4_Valid.calls k a0_0 a0_1 a0_2 _ _ l0_3 true _ ?side1 ?side2 A5.out).mono ?_); (case side1 => repeat (first | exact (Kd.C_below HR0_3.out HB.out) | (with_reducible refine Kd.C_alloc ?_ _) | (with_reducible refine Kd.C_drewN ?_ _) | (with_reducible refine Kd.C_drew ?_))); (case side2 => exact HC0_3.out); rintro e w14 ⟨rfl, hb⟩; refine ⟨_, rfl, ?_⟩; have n0_ := Aside0.mk (blk_below (g := gb353) (o := .cells #[.int .i64 a0_0, .int .i64 a0_1, .int .i64 a0_2, .slice A0_3 l0_3.length c0_3] 26 (0, 0)) q154_ hb); have n1_ := Aside0.mk (blk_below (g := gb354) (o := .cells #[.int .i64 a1_0, .int .i64 a1_1] 45 (0, 0)) q155_ hb); have n2_ := Aside0.mk (below_step q82_ hb); clear BK353; clear BK354; clear HB; have BK353 := n0_; have BK354 := n1_; have HB := n2_; clear n0_ n1_ n2_; (try clear hb); (try clear hb2); (try clear hk); (try clear hi); have hcz15_0 : w14.cell? ⟨gb354, 0, none⟩ = some (.int .i64 a1_0) := (blk_cell BK354.out 0).trans rfl; have hcz15_1 : w14.cell? ⟨gb354, 1, none⟩ = some (.int .i64 a1_1) := (blk_cell BK354.out 1).trans rfl; have hfz15_0 := blk_frozen BK354.out 0; have hfz15_1 := blk_frozen BK354.out 1; have hcz16_0 : w14.cell? ⟨gb353, 0, none⟩ = some (.int .i64 a0_0) := (blk_cell BK353.out 0).trans rfl; have hcz16_1 : w14.cell? ⟨gb353, 1, none⟩ = some (.int .i64 a0_1) := (blk_cell BK353.out 1).trans rfl; have hcz16_2 : w14.cell? ⟨gb353, 2, none⟩ = some (.int .i64 a0_2) := (blk_cell BK353.out 2).trans rfl; have hcz16_3 : w14.cell? ⟨gb353, 3, none⟩ = some (.slice A0_3 l0_3.length c0_3) := (blk_cell BK353.out 3).trans rfl; have hfz16_0 := blk_frozen BK353.out 0; have hfz16_1 := blk_frozen BK353.out 1; have hfz16_2 := blk_frozen BK353.out 2; have hfz16_3 := blk_frozen BK353.out 3) | (go_at_call 45; (with_reducible refine (tilefarmref3_Valid.calls a1_0 a1_1 a0_2 true _ A7.out).mono ?_); rintro e w17 ⟨rfl, hb⟩; have n0_ := Aside0.mk (blk_below (g := gb353) (o := .cells #[.int .i64 a0_0, .int .i64 a0_1, .int .i64 a0_2, .slice A0_3 l0_3.length c0_3] 26 (0, 0)) q154_ hb); have n1_ := Aside0.mk (blk_below (g := gb354) (o := .cells #[.int .i64 a1_0, .int .i64 a1_1] 45 (0, 0)) q155_ hb); have n2_ := Aside0.mk (below_step q82_ hb); clear BK353; clear BK354; clear HB; have BK353 := n0_; have BK354 := n1_; have HB := n2_; clear n0_ n1_ n2_; (try clear hb); (try clear hb2); (try clear hk); (try clear hi); have hcz18_0 : w17.cell? ⟨gb353, 0, none⟩ = some (.int .i64 a0_0) := (blk_cell BK353.out 0).trans rfl; have hcz18_1 : w17.cell? ⟨gb353, 1, none⟩ = some (.int .i64 a0_1) := (blk_cell BK353.out 1).trans rfl; have hcz18_2 : w17.cell? ⟨gb353, 2, none⟩ = some (.int .i64 a0_2) := (blk_cell BK353.out 2).trans rfl; have hcz18_3 : w17.cell? ⟨gb353, 3, none⟩ = some (.slice A0_3 l0_3.length c0_3) := (blk_cell BK353.out 3).trans rfl; have hfz18_0 := blk_frozen BK353.out 0; have hfz18_1 := blk_frozen BK353.out 1; have hfz18_2 := blk_frozen BK353.out 2; have hfz18_3 := blk_frozen BK353.out 3; have hcz19_0 : w17.cell? ⟨gb354, 0, none⟩ = some (.int .i64 a1_0) := (blk_cell BK354.out 0).trans rfl; have hcz19_1 : w17.cell? ⟨gb354, 1, none⟩ = some (.int .i64 a1_1) := (blk_cell BK354.out 1).trans rfl; have hfz19_0 := blk_frozen BK354.out 0; have hfz19_1 := blk_frozen BK354.out 1) | ((with_reducible refine gate_callee (f := 46) rfl ?_); refine goesL_ (some 23) rfl rfl Try.func46 (by kernel_rfl) rfl #[.agg #[.int .i64 a0_0, .int .i64 a0_1, .int .i64 a0_2, .slice A0_3 l0_3.length c0_3], .agg #[.int .i64 a1_0, .int .i64 a1_1], .int .i64 a2, .int .i64 a3] rfl q117_ ?_; (with_reducible refine (tilefarmref4_Pixel.calls k a0_0 a0_1 a0_2 _ _ l0_3 a1_0 a1_1 a2 a3 t357 _ ?side1 ?side2 A9.out).mono ?_); (case side1 => repeat (first | exact (Kd.C_below HR0_3.out HB.out) | (with_reducible refine Kd.C_alloc ?_ _) | (with_reducible refine Kd.C_drewN ?_ _) | (with_reducible refine Kd.C_drew ?_))); (case side2 => exact HC0_3.out); rintro e w20 ⟨rfl, hb⟩; refine ⟨_, rfl, ?_⟩; have n0_ := Aside0.mk (blk_below (g := gb353) (o := .cells #[.int .i64 a0_0, .int .i64 a0_1, .int .i64 a0_2, .slice A0_3 l0_3.length c0_3] 26 (0, 0)) q154_ hb); have n1_ := Aside0.mk (blk_below (g := gb354) (o := .cells #[.int .i64 a1_0, .int .i64 a1_1] 45 (0, 0)) q155_ hb); have n2_ := Aside0.mk (below_step q82_ hb); clear BK353; clear BK354; clear HB; have BK353 := n0_; have BK354 := n1_; have HB := n2_; clear n0_ n1_ n2_; (try clear hb); (try clear hb2); (try clear hk); (try clear hi)))
      go_ret
      exact ⟨q175_, q82_⟩
    · replace c8 := Bool.eq_false_iff.mpr c8
      subst c8
      have H1 : (some 0) = some r := by rw [if_neg (show ¬ (false = true) by decide)] at H; exact H
      clear H
      have H := H1
      clear H1
      obtain rfl := Option.some.inj H
      go_enter Try.func27, Try.ntmps27
      go_wp2_with (first | ((with_reducible refine gate_dst (N := 4) rfl ?_); refine box_event ?hg (N := 4) ?hd (cs := #[.int .i64 a0_0, .int .i64 a0_1, .int .i64 a0_2, .slice A0_3 l0_3.length c0_3]) (t := 26) ?hr ?_; (case hd => rfl); (case hg => rfl); (case hr => first | (go_simp; done) | (go_simp; rfl)); intro gb353 hg w21 hbox hb; have n0_ := Aside0.mk (below_step q120_ hb); have n1_ := Aside0.mk (hbox); have n2_ := Aside0.mk ((q95_ : w.heap.size ≤ gb353)); have n3_ := Aside0.mk ((q95_ : w.heap.size ≤ gb353)); clear HB; have HB := n0_; have BK353 := n1_; have GW353 := n2_; have GE353 := n3_; clear n0_ n1_ n2_ n3_; clear hb hbox hg) | ((with_reducible refine gate_dst (N := 5) rfl ?_); refine box_event ?hg (N := 5) ?hd (cs := #[.int .i64 a1_0, .int .i64 a1_1]) (t := 45) ?hr ?_; (case hd => rfl); (case hg => rfl); (case hr => first | (go_simp; done) | (go_simp; rfl)); intro gb354 hg w22 hbox hb; have n0_ := Aside0.mk (blk_below (g := gb353) (o := .cells #[.int .i64 a0_0, .int .i64 a0_1, .int .i64 a0_2, .slice A0_3 l0_3.length c0_3] 26 (0, 0)) q154_ hb); have n1_ := Aside0.mk (below_step q113_ hb); have n2_ := Aside0.mk (hbox); have n3_ := Aside0.mk ((q72_ : w.heap.size ≤ gb354)); have n4_ := Aside0.mk ((q72_ : w.heap.size ≤ gb354)); have n5_ := Aside0.mk ((q19_ : gb353 ≠ gb354)); have n6_ := Aside0.mk ((q20_ : gb354 ≠ gb353)); clear BK353; clear HB; have BK353 := n0_; have HB := n1_; have BK354 := n2_; have GW354 := n3_; have GE354 := n4_; have NB353_354 := n5_; have NB354_353 := n6_; clear n0_ n1_ n2_ n3_ n4_ n5_ n6_; clear hb hbox hg; have hnb23 := NB353_354.out; have hnc23 := NB354_353.out; have hcz24_0 : w22.cell? ⟨gb353, 0, none⟩ = some (.int .i64 a0_0) := (blk_cell BK353.out 0).trans rfl; have hcz24_1 : w22.cell? ⟨gb353, 1, none⟩ = some (.int .i64 a0_1) := (blk_cell BK353.out 1).trans rfl; have hcz24_2 : w22.cell? ⟨gb353, 2, none⟩ = some (.int .i64 a0_2) := (blk_cell BK353.out 2).trans rfl; have hcz24_3 : w22.cell? ⟨gb353, 3, none⟩ = some (.slice A0_3 l0_3.length c0_3) := (blk_cell BK353.out 3).trans rfl; have hfz24_0 := blk_frozen BK353.out 0; have hfz24_1 := blk_frozen BK353.out 1; have hfz24_2 := blk_frozen BK353.out 2; have hfz24_3 := blk_frozen BK353.out 3) | ((with_reducible refine gate_callee (f := 16) rfl ?_); refine goesL_ (some 10) rfl rfl Try.func16 (by kernel_rfl) rfl #[.agg #[.int .i64 a0_0, .int .i64 a0_1, .int .i64 a0_2, .slice A0_3 l0_3.length c0_3]] rfl q117_ ?_; (with_reducible refine (tilefarmref4_Valid.calls k a0_0 a0_1 a0_2 _ _ l0_3 true _ ?side1 ?side2 A5.out).mono ?_); (case side1 => repeat (first | exact (Kd.C_below HR0_3.out HB.out) | (with_reducible refine Kd.C_alloc ?_ _) | (with_reducible refine Kd.C_drewN ?_ _) | (with_reducible refine Kd.C_drew ?_))); (case side2 => exact HC0_3.out); rintro e w25 ⟨rfl, hb⟩; refine ⟨_, rfl, ?_⟩; have n0_ := Aside0.mk (blk_below (g := gb353) (o := .cells #[.int .i64 a0_0, .int .i64 a0_1, .int .i64 a0_2, .slice A0_3 l0_3.length c0_3] 26 (0, 0)) q154_ hb); have n1_ := Aside0.mk (blk_below (g := gb354) (o := .cells #[.int .i64 a1_0, .int .i64 a1_1] 45 (0, 0)) q155_ hb); have n2_ := Aside0.mk (below_step q82_ hb); clear BK353; clear BK354; clear HB; have BK353 := n0_; have BK354 := n1_; have HB := n2_; clear n0_ n1_ n2_; (try clear hb); (try clear hb2); (try clear hk); (try clear hi); have hcz26_0 : w25.cell? ⟨gb354, 0, none⟩ = some (.int .i64 a1_0) := (blk_cell BK354.out 0).trans rfl; have hcz26_1 : w25.cell? ⟨gb354, 1, none⟩ = some (.int .i64 a1_1) := (blk_cell BK354.out 1).trans rfl; have hfz26_0 := blk_frozen BK354.out 0; have hfz26_1 := blk_frozen BK354.out 1; have hcz27_0 : w25.cell? ⟨gb353, 0, none⟩ = some (.int .i64 a0_0) := (blk_cell BK353.out 0).trans rfl; have hcz27_1 : w25.cell? ⟨gb353, 1, none⟩ = some (.int .i64 a0_1) := (blk_cell BK353.out 1).trans rfl; have hcz27_2 : w25.cell? ⟨gb353, 2, none⟩ = some (.int .i64 a0_2) := (blk_cell BK353.out 2).trans rfl; have hcz27_3 : w25.cell? ⟨gb353, 3, none⟩ = some (.slice A0_3 l0_3.length c0_3) := (blk_cell BK353.out 3).trans rfl; have hfz27_0 := blk_frozen BK353.out 0; have hfz27_1 := blk_frozen BK353.out 1; have hfz27_2 := blk_frozen BK353.out 2; have hfz27_3 := blk_frozen BK353.out 3) | (go_at_call 45; (with_reducible refine (tilefarmref3_Valid.calls a1_0 a1_1 a0_2 false _ A7.out).mono ?_); rintro e w28 ⟨rfl, hb⟩; have n0_ := Aside0.mk (blk_below (g := gb353) (o := .cells #[.int .i64 a0_0, .int .i64 a0_1, .int .i64 a0_2, .slice A0_3 l0_3.length c0_3] 26 (0, 0)) q154_ hb); have n1_ := Aside0.mk (blk_below (g := gb354) (o := .cells #[.int .i64 a1_0, .int .i64 a1_1] 45 (0, 0)) q155_ hb); have n2_ := Aside0.mk (below_step q82_ hb); clear BK353; clear BK354; clear HB; have BK353 := n0_; have BK354 := n1_; have HB := n2_; clear n0_ n1_ n2_; (try clear hb); (try clear hb2); (try clear hk); (try clear hi)))
      go_ret
      exact ⟨q175_, q82_⟩
  · replace c6 := Bool.eq_false_iff.mpr c6
    subst c6
    have H1 : (some 0) = some r := by rw [if_neg (show ¬ (false = true) by decide)] at H; exact H
    clear H
    have H := H1
    clear H1
    obtain rfl := Option.some.inj H
    go_enter Try.func27, Try.ntmps27
    go_wp2_with (first | ((with_reducible refine gate_dst (N := 4) rfl ?_); refine box_event ?hg (N := 4) ?hd (cs := #[.int .i64 a0_0, .int .i64 a0_1, .int .i64 a0_2, .slice A0_3 l0_3.length c0_3]) (t := 26) ?hr ?_; (case hd => rfl); (case hg => rfl); (case hr => first | (go_simp; done) | (go_simp; rfl)); intro gb353 hg w29 hbox hb; have n0_ := Aside0.mk (below_step q120_ hb); have n1_ := Aside0.mk (hbox); have n2_ := Aside0.mk ((q95_ : w.heap.size ≤ gb353)); have n3_ := Aside0.mk ((q95_ : w.heap.size ≤ gb353)); clear HB; have HB := n0_; have BK353 := n1_; have GW353 := n2_; have GE353 := n3_; clear n0_ n1_ n2_ n3_; clear hb hbox hg) | ((with_reducible refine gate_dst (N := 5) rfl ?_); refine box_event ?hg (N := 5) ?hd (cs := #[.int .i64 a1_0, .int .i64 a1_1]) (t := 45) ?hr ?_; (case hd => rfl); (case hg => rfl); (case hr => first | (go_simp; done) | (go_simp; rfl)); intro gb354 hg w30 hbox hb; have n0_ := Aside0.mk (blk_below (g := gb353) (o := .cells #[.int .i64 a0_0, .int .i64 a0_1, .int .i64 a0_2, .slice A0_3 l0_3.length c0_3] 26 (0, 0)) q154_ hb); have n1_ := Aside0.mk (below_step q113_ hb); have n2_ := Aside0.mk (hbox); have n3_ := Aside0.mk ((q72_ : w.heap.size ≤ gb354)); have n4_ := Aside0.mk ((q72_ : w.heap.size ≤ gb354)); have n5_ := Aside0.mk ((q19_ : gb353 ≠ gb354)); have n6_ := Aside0.mk ((q20_ : gb354 ≠ gb353)); clear BK353; clear HB; have BK353 := n0_; have HB := n1_; have BK354 := n2_; have GW354 := n3_; have GE354 := n4_; have NB353_354 := n5_; have NB354_353 := n6_; clear n0_ n1_ n2_ n3_ n4_ n5_ n6_; clear hb hbox hg; have hnb31 := NB353_354.out; have hnc31 := NB354_353.out; have hcz32_0 : w30.cell? ⟨gb353, 0, none⟩ = some (.int .i64 a0_0) := (blk_cell BK353.out 0).trans rfl; have hcz32_1 : w30.cell? ⟨gb353, 1, none⟩ = some (.int .i64 a0_1) := (blk_cell BK353.out 1).trans rfl; have hcz32_2 : w30.cell? ⟨gb353, 2, none⟩ = some (.int .i64 a0_2) := (blk_cell BK353.out 2).trans rfl; have hcz32_3 : w30.cell? ⟨gb353, 3, none⟩ = some (.slice A0_3 l0_3.length c0_3) := (blk_cell BK353.out 3).trans rfl; have hfz32_0 := blk_frozen BK353.out 0; have hfz32_1 := blk_frozen BK353.out 1; have hfz32_2 := blk_frozen BK353.out 2; have hfz32_3 := blk_frozen BK353.out 3) | ((with_reducible refine gate_callee (f := 16) rfl ?_); refine goesL_ (some 10) rfl rfl Try.func16 (by kernel_rfl) rfl #[.agg #[.int .i64 a0_0, .int .i64 a0_1, .int .i64 a0_2, .slice A0_3 l0_3.length c0_3]] rfl q117_ ?_; (with_reducible refine (tilefarmref4_Valid.calls k a0_0 a0_1 a0_2 _ _ l0_3 false _ ?side1 ?side2 A5.out).mono ?_); (case side1 => repeat (first | exact (Kd.C_below HR0_3.out HB.out) | (with_reducible refine Kd.C_alloc ?_ _) | (with_reducible refine Kd.C_drewN ?_ _) | (with_reducible refine Kd.C_drew ?_))); (case side2 => exact HC0_3.out); rintro e w33 ⟨rfl, hb⟩; refine ⟨_, rfl, ?_⟩; have n0_ := Aside0.mk (blk_below (g := gb353) (o := .cells #[.int .i64 a0_0, .int .i64 a0_1, .int .i64 a0_2, .slice A0_3 l0_3.length c0_3] 26 (0, 0)) q154_ hb); have n1_ := Aside0.mk (blk_below (g := gb354) (o := .cells #[.int .i64 a1_0, .int .i64 a1_1] 45 (0, 0)) q155_ hb); have n2_ := Aside0.mk (below_step q82_ hb); clear BK353; clear BK354; clear HB; have BK353 := n0_; have BK354 := n1_; have HB := n2_; clear n0_ n1_ n2_; (try clear hb); (try clear hb2); (try clear hk); (try clear hi)))
    go_ret
    exact ⟨q175_, q82_⟩

end Go.Proofs.Ytgkccacenlcebaa.PPlaneReads
