-- Written by a program of the session (wip/tools/pack.py): the printed texts, pruned; checked by Lean.
import Derived.Test.YthgmndomnibefaaKConvolveCropsa
import Derived.Test.YthgmndomnibefaaKConvolveCropsx0
import Derived.Test.YthgmndomnibefaaKConvolveCropsx1
import Derived.Test.YthgmndomnibefaaKConvolveCropsx11
namespace Go.Proofs.Ythgmndomnibefaa.PConvolveCrops
open Go.RowKit Go.Proofs.YthgmndomnibefaaW.PrintWords Go.Proofs.YthgmndomnibefaaW.PrintLast Go.Proofs.YthgmndomnibefaaW.PrintMore
attribute [local go_sem] max2_int min2_int max_two min_two max_three min_three max_four min_four   -- for this text's walks alone
set_option linter.unusedVariables false
set_option linter.unusedSimpArgs false
attribute [local go_sem high] eqA33
mutual
def tilefarmref4_Valid.j0 : Nat → Bool → Int → Int → Int → List Int → Option (Bool)
  | 0, _, _, _, _, _ => none
  | k + 1, x22, x264000, x264001, x264002, x264003 => if x22 = true then (some false) else (tilefarmref4_Valid.l0 k 0 x264000 x264001 x264002 x264003)
def tilefarmref4_Valid.l0 : Nat → Int → Int → Int → Int → List Int → Option (Bool)
  | 0, _, _, _, _, _ => none
  | k + 1, x3, x264000, x264001, x264002, x264003 => if x3 < (x264003.length : Int) then (if 0 ≤ x3 then (if (rd x264003 x3) < 0 then (some false) else (if (rd x264003 x3) > x264002 then (some false) else (tilefarmref4_Valid.l0 k (wrap64 (x3 + 1)) x264000 x264001 x264002 x264003))) else (none)) else (some true)
end
def tilefarmref4_Valid.f (k : Nat) (a0_0 : Int) (a0_1 : Int) (a0_2 : Int) (l0_3 : List Int) : Option (Bool) := (tilefarmref4_Size.f a0_0 a0_1 a0_2).bind fun t264 => (if t264 = true then (tilefarmref4_Valid.j0 k ((l0_3.length : Int) != (wrap64 (a0_0 * a0_1))) a0_0 a0_1 a0_2 l0_3) else (tilefarmref4_Valid.j0 k true a0_0 a0_1 a0_2 l0_3))
theorem tilefarmref4_Valid.mono_l : ∀ k, (∀ y0 y1 y2 y3 y4, LeO (tilefarmref4_Valid.j0 k y0 y1 y2 y3 y4) (tilefarmref4_Valid.j0 (k + 1) y0 y1 y2 y3 y4)) ∧ (∀ y0 y1 y2 y3 y4, LeO (tilefarmref4_Valid.l0 k y0 y1 y2 y3 y4) (tilefarmref4_Valid.l0 (k + 1) y0 y1 y2 y3 y4))
  | 0 => ⟨fun _ _ _ _ _ r h => by simp [tilefarmref4_Valid.j0] at h, fun _ _ _ _ _ r h => by simp [tilefarmref4_Valid.l0] at h⟩
  | k + 1 => by
    obtain ⟨ih0, ih1⟩ := tilefarmref4_Valid.mono_l k
    refine ⟨?_, ?_⟩
    · intro y0 y1 y2 y3 y4
      unfold tilefarmref4_Valid.j0
      repeat' first
      | (with_reducible exact ih0 _ _ _ _ _)
      | (with_reducible exact ih1 _ _ _ _ _)
      | (with_reducible exact LeO.refl _)
      | (with_reducible exact LeO.none _)
      | (with_reducible refine LeO.ite ?_ ?_)
      | (with_reducible refine LeO.bind ?_ (fun _ => ?_))
      | exact ih0 _ _ _ _ _
      | exact ih1 _ _ _ _ _
      | exact LeO.none _
      | refine LeO.ite ?_ ?_
      | refine LeO.bind ?_ (fun _ => ?_)
    · intro y0 y1 y2 y3 y4
      unfold tilefarmref4_Valid.l0
      repeat' first
      | (with_reducible exact ih0 _ _ _ _ _)
      | (with_reducible exact ih1 _ _ _ _ _)
      | (with_reducible exact LeO.refl _)
      | (with_reducible exact LeO.none _)
      | (with_reducible refine LeO.ite ?_ ?_)
      | (with_reducible refine LeO.bind ?_ (fun _ => ?_))
      | exact ih0 _ _ _ _ _
      | exact ih1 _ _ _ _ _
      | exact LeO.none _
      | refine LeO.ite ?_ ?_
      | refine LeO.bind ?_ (fun _ => ?_)
theorem tilefarmref4_Valid.mono : ∀ a0 a1 a2 a3 k, LeO (tilefarmref4_Valid.f k a0 a1 a2 a3) (tilefarmref4_Valid.f (k + 1) a0 a1 a2 a3) := by
  intro a0 a1 a2 a3 k
  obtain ⟨ih0, ih1⟩ := tilefarmref4_Valid.mono_l k
  unfold tilefarmref4_Valid.f
  repeat' first
      | (with_reducible exact ih0 _ _ _ _ _)
      | (with_reducible exact ih1 _ _ _ _ _)
      | (with_reducible exact LeO.refl _)
      | (with_reducible exact LeO.none _)
      | (with_reducible refine LeO.ite ?_ ?_)
      | (with_reducible refine LeO.bind ?_ (fun _ => ?_))
      | exact ih0 _ _ _ _ _
      | exact ih1 _ _ _ _ _
      | exact LeO.none _
      | refine LeO.ite ?_ ?_
      | refine LeO.bind ?_ (fun _ => ?_)
set_option maxHeartbeats 8000000 in
set_option maxRecDepth 100000 in
theorem tilefarmref4_Valid.calls (k : Nat) (a0_0 : Int) (a0_1 : Int) (a0_2 : Int) (A0_3 : Option Addr) (c0_3 : Nat) (l0_3 : List Int) (r : Bool) (w : World) (hr0_3 : Kd.C (Kd.int .i64) w A0_3 l0_3.length l0_3) (hc0_3 : l0_3.length ≤ c0_3) (h : tilefarmref4_Valid.f k a0_0 a0_1 a0_2 l0_3 = some r) :
    Calls Try.prog 43 #[.agg #[.int .i64 a0_0, .int .i64 a0_1, .int .i64 a0_2, .slice A0_3 l0_3.length c0_3]] w fun e w' => e = .returned (.bool r) ∧ Below w.heap.size w w' := by
  have hu35 := Try.underlying35
  have HR0_3 := Aside0.mk hr0_3
  have HC0_3 := Aside0.mk hc0_3
  clear hr0_3 hc0_3
  have HB := Aside0.mk (Below.refl w.heap.size w)
  have H : ((tilefarmref4_Size.f a0_0 a0_1 a0_2).bind fun t264 => (if t264 = true then (tilefarmref4_Valid.j0 k ((l0_3.length : Int) != (wrap64 (a0_0 * a0_1))) a0_0 a0_1 a0_2 l0_3) else (tilefarmref4_Valid.j0 k true a0_0 a0_1 a0_2 l0_3))) = some r := h
  clear h
  have HC2 := Aside0.mk H
  clear H
  go_enter Try.func43, Try.ntmps43
  go_upto_region 1 with (first | ((with_reducible refine gate_dst (N := 1) rfl ?_); (try (refine gate_guard (by rfl) ?_; dsimp only)); refine box_event ?hg (N := 1) ?hd (cs := #[.int .i64 a0_0, .int .i64 a0_1, .int .i64 a0_2, .slice A0_3 l0_3.length c0_3]) (t := 35) ?hr ?_; (case hd => rfl); (case hg => rfl); (case hr => first | (go_simp; done) | (go_simp; rfl)); intro gb263 hg w3 hbox hb; have n0_ := Aside0.mk (below_step q114_ hb); have n1_ := Aside0.mk (hbox); have n2_ := Aside0.mk ((q89_ : w.heap.size ≤ gb263)); have n3_ := Aside0.mk ((q89_ : w.heap.size ≤ gb263)); clear HB; have HB := n0_; have BK263 := n1_; have GW263 := n2_; have GE263 := n3_; clear n0_ n1_ n2_ n3_; clear hb hbox hg))
  repeat (go_quiet (first | ((with_reducible refine gate_dst (N := 1) rfl ?_); (try (refine gate_guard (by rfl) ?_; dsimp only)); refine box_event ?hg (N := 1) ?hd (cs := #[.int .i64 a0_0, .int .i64 a0_1, .int .i64 a0_2, .slice A0_3 l0_3.length c0_3]) (t := 35) ?hr ?_; (case hd => rfl); (case hg => rfl); (case hr => first | (go_simp; done) | (go_simp; rfl)); intro gb263 hg w3 hbox hb; have n0_ := Aside0.mk (below_step q114_ hb); have n1_ := Aside0.mk (hbox); have n2_ := Aside0.mk ((q89_ : w.heap.size ≤ gb263)); have n3_ := Aside0.mk ((q89_ : w.heap.size ≤ gb263)); clear HB; have HB := n0_; have BK263 := n1_; have GW263 := n2_; have GE263 := n3_; clear n0_ n1_ n2_ n3_; clear hb hbox hg)); go_upto_region 1 with (first | ((with_reducible refine gate_dst (N := 1) rfl ?_); (try (refine gate_guard (by rfl) ?_; dsimp only)); refine box_event ?hg (N := 1) ?hd (cs := #[.int .i64 a0_0, .int .i64 a0_1, .int .i64 a0_2, .slice A0_3 l0_3.length c0_3]) (t := 35) ?hr ?_; (case hd => rfl); (case hg => rfl); (case hr => first | (go_simp; done) | (go_simp; rfl)); intro gb263 hg w3 hbox hb; have n0_ := Aside0.mk (below_step q114_ hb); have n1_ := Aside0.mk (hbox); have n2_ := Aside0.mk ((q89_ : w.heap.size ≤ gb263)); have n3_ := Aside0.mk ((q89_ : w.heap.size ≤ gb263)); clear HB; have HB := n0_; have BK263 := n1_; have GW263 := n2_; have GE263 := n3_; clear n0_ n1_ n2_ n3_; clear hb hbox hg)))
  (try simp only [Act.put, List.setIfInBounds_toArray, List.set_cons_zero, List.set_cons_succ])
  go_cut [22] (fun v22 wc => ∃ (kq : Nat) (x22_1 : Bool), v22 = .bool x22_1 ∧ Aside0 (tilefarmref4_Valid.j0 kq x22_1 a0_0 a0_1 a0_2 l0_3 = some r) ∧ Aside0 (kq ≤ k) ∧ Aside0 (wc.heap[gb263]? = some (.cells #[.int .i64 a0_0, .int .i64 a0_1, .int .i64 a0_2, (.slice A0_3 l0_3.length c0_3)] 35 (0, 0))) ∧ Aside0 (Below w.heap.size w wc))
  case first =>
    have H := HC2.out
    clear HC2
    replace H := Option.bind_eq_some_iff.mp H
    obtain ⟨t264, A40, H⟩ := H
    replace H : (if t264 = true then (tilefarmref4_Valid.j0 k ((l0_3.length : Int) != (wrap64 (a0_0 * a0_1))) a0_0 a0_1 a0_2 l0_3) else (tilefarmref4_Valid.j0 k true a0_0 a0_1 a0_2 l0_3)) = some r := H
    have A4 := Aside0.mk A40
    clear A40
    by_cases c5 : t264 = true
    · subst c5
      have H1 : (tilefarmref4_Valid.j0 k ((l0_3.length : Int) != (wrap64 (a0_0 * a0_1))) a0_0 a0_1 a0_2 l0_3) = some r := by rw [if_pos rfl] at H; exact H
      clear H
      have H := H1
      clear H1
      have H' := Aside0.mk H
      clear H
      have hcz6_0 : w3.cell? ⟨gb263, 0, none⟩ = some (.int .i64 a0_0) := (blk_cell BK263.out 0).trans rfl
      have hcz6_1 : w3.cell? ⟨gb263, 1, none⟩ = some (.int .i64 a0_1) := (blk_cell BK263.out 1).trans rfl
      have hcz6_2 : w3.cell? ⟨gb263, 2, none⟩ = some (.int .i64 a0_2) := (blk_cell BK263.out 2).trans rfl
      have hcz6_3 : w3.cell? ⟨gb263, 3, none⟩ = some (.slice A0_3 l0_3.length c0_3) := (blk_cell BK263.out 3).trans rfl
      have hfz6_0 := blk_frozen BK263.out 0
      have hfz6_1 := blk_frozen BK263.out 1
      have hfz6_2 := blk_frozen BK263.out 2
      have hfz6_3 := blk_frozen BK263.out 3
      go_wp2_with (first | (go_at_call 64; (with_reducible refine (tilefarmref4_Size.calls a0_0 a0_1 a0_2 true _ A4.out).mono ?_); rintro e w' ⟨rfl, ⟨nd, rfl⟩⟩; (try first | exact ⟨rfl, _, World.drewN_drewN _ _ _⟩ | exact ⟨rfl, _, Eq.trans (World.drewN_drewN _ _ _) (congrArg (World.drewN _) (Nat.add_assoc _ _ _))⟩)))
      repeat (go_quiet (first | (go_at_call 64; (with_reducible refine (tilefarmref4_Size.calls a0_0 a0_1 a0_2 true _ A4.out).mono ?_); rintro e w' ⟨rfl, ⟨nd, rfl⟩⟩; (try first | exact ⟨rfl, _, World.drewN_drewN _ _ _⟩ | exact ⟨rfl, _, Eq.trans (World.drewN_drewN _ _ _) (congrArg (World.drewN _) (Nat.add_assoc _ _ _))⟩))); try go_wp2_with (first | (go_at_call 64; (with_reducible refine (tilefarmref4_Size.calls a0_0 a0_1 a0_2 true _ A4.out).mono ?_); rintro e w' ⟨rfl, ⟨nd, rfl⟩⟩; (try first | exact ⟨rfl, _, World.drewN_drewN _ _ _⟩ | exact ⟨rfl, _, Eq.trans (World.drewN_drewN _ _ _) (congrArg (World.drewN _) (Nat.add_assoc _ _ _))⟩))))
      go_meet
      case rel => exact ⟨_, (((l0_3.length : Int) != (wrap64 (a0_0 * a0_1)))), q171_, H', ⟨by first | omega | exact Nat.le_refl _⟩, ⟨q139_⟩, ⟨q100_⟩⟩
    · replace c5 := Bool.eq_false_iff.mpr c5
      subst c5
      have H1 : (tilefarmref4_Valid.j0 k true a0_0 a0_1 a0_2 l0_3) = some r := by rw [if_neg (show ¬ (false = true) by decide)] at H; exact H
      clear H
      have H := H1
      clear H1
      have H' := Aside0.mk H
      clear H
      have hcz7_0 : w3.cell? ⟨gb263, 0, none⟩ = some (.int .i64 a0_0) := (blk_cell BK263.out 0).trans rfl
      have hcz7_1 : w3.cell? ⟨gb263, 1, none⟩ = some (.int .i64 a0_1) := (blk_cell BK263.out 1).trans rfl
      have hcz7_2 : w3.cell? ⟨gb263, 2, none⟩ = some (.int .i64 a0_2) := (blk_cell BK263.out 2).trans rfl
      have hcz7_3 : w3.cell? ⟨gb263, 3, none⟩ = some (.slice A0_3 l0_3.length c0_3) := (blk_cell BK263.out 3).trans rfl
      have hfz7_0 := blk_frozen BK263.out 0
      have hfz7_1 := blk_frozen BK263.out 1
      have hfz7_2 := blk_frozen BK263.out 2
      have hfz7_3 := blk_frozen BK263.out 3
      go_wp2_with (first | (go_at_call 64; (with_reducible refine (tilefarmref4_Size.calls a0_0 a0_1 a0_2 false _ A4.out).mono ?_); rintro e w' ⟨rfl, ⟨nd, rfl⟩⟩; (try first | exact ⟨rfl, _, World.drewN_drewN _ _ _⟩ | exact ⟨rfl, _, Eq.trans (World.drewN_drewN _ _ _) (congrArg (World.drewN _) (Nat.add_assoc _ _ _))⟩)))
      repeat (go_quiet (first | (go_at_call 64; (with_reducible refine (tilefarmref4_Size.calls a0_0 a0_1 a0_2 false _ A4.out).mono ?_); rintro e w' ⟨rfl, ⟨nd, rfl⟩⟩; (try first | exact ⟨rfl, _, World.drewN_drewN _ _ _⟩ | exact ⟨rfl, _, Eq.trans (World.drewN_drewN _ _ _) (congrArg (World.drewN _) (Nat.add_assoc _ _ _))⟩))); try go_wp2_with (first | (go_at_call 64; (with_reducible refine (tilefarmref4_Size.calls a0_0 a0_1 a0_2 false _ A4.out).mono ?_); rintro e w' ⟨rfl, ⟨nd, rfl⟩⟩; (try first | exact ⟨rfl, _, World.drewN_drewN _ _ _⟩ | exact ⟨rfl, _, Eq.trans (World.drewN_drewN _ _ _) (congrArg (World.drewN _) (Nat.add_assoc _ _ _))⟩))))
      go_meet
      case rel => exact ⟨_, (true), q171_, H', ⟨by first | omega | exact Nat.le_refl _⟩, ⟨q139_⟩, ⟨q100_⟩⟩
  case rest =>
    clear HC2
    try clear p2
    try clear c4
    try clear c5
    try clear p6
    try clear hcz6_0
    try clear hcz6_1
    try clear hcz6_2
    try clear hcz6_3
    try clear hcz7_0
    try clear hcz7_1
    try clear hcz7_2
    try clear hcz7_3
    try clear hfz6_0
    try clear hfz6_1
    try clear hfz6_2
    try clear hfz6_3
    try clear hfz7_0
    try clear hfz7_1
    try clear hfz7_2
    try clear hfz7_3
    obtain ⟨kq, x22_1, rfl, HA, HJ1, BK263, HB⟩ := hcut
    cases kq with
    | zero => exact absurd HA.out (by simp [tilefarmref4_Valid.j0])
    | succ kj1 =>
      have H := HA.out
      clear HA
      simp only [tilefarmref4_Valid.j0] at H
      by_cases c8 : x22_1 = true
      · subst c8
        have H1 : (some false) = some r := by rw [if_pos rfl] at H; exact H
        clear H
        have H := H1
        clear H1
        obtain rfl := Option.some.inj H
        go_wp2
        repeat (go_quiet (fail); try go_wp2)
        go_ret
        exact ⟨q165_, q100_⟩
      · replace c8 := Bool.eq_false_iff.mpr c8
        subst c8
        have H1 : (tilefarmref4_Valid.l0 kj1 0 a0_0 a0_1 a0_2 l0_3) = some r := by rw [if_neg (show ¬ (false = true) by decide)] at H; exact H
        clear H
        have H := H1
        clear H1
        have H' := Aside0.mk H
        clear H
        go_wp2
        repeat (go_quiet (fail); try go_wp2)
        go_loopg [3] kj1 (fun kq v3 w' => ∃ (x3_2 : Int), v3 = .int .i64 x3_2 ∧ Aside0 (tilefarmref4_Valid.l0 kq x3_2 a0_0 a0_1 a0_2 l0_3 = some r) ∧ Aside0 (kq ≤ kj1) ∧ Aside0 (w'.heap[gb263]? = some (.cells #[.int .i64 a0_0, .int .i64 a0_1, .int .i64 a0_2, (.slice A0_3 l0_3.length c0_3)] 35 (0, 0))) ∧ Aside0 (Below w.heap.size w w'))
        case atStart => exact ⟨(0), q171_, H', ⟨Nat.le_refl _⟩, ⟨q139_⟩, ⟨q100_⟩⟩
        case round =>
          clear H'
          try clear p2
          try clear c4
          try clear c5
          try clear p6
          try clear c8
          try clear hcz6_0
          try clear hcz6_1
          try clear hcz6_2
          try clear hcz6_3
          try clear hcz7_0
          try clear hcz7_1
          try clear hcz7_2
          try clear hcz7_3
          try clear hfz6_0
          try clear hfz6_1
          try clear hfz6_2
          try clear hfz6_3
          try clear hfz7_0
          try clear hfz7_1
          try clear hfz7_2
          try clear hfz7_3
          try clear p2
          try clear p6
          obtain ⟨x3_2, rfl, HA, HK2, BK263, HB⟩ := hrel
          cases gk with
          | zero => exact absurd HA.out (by simp [tilefarmref4_Valid.l0])
          | succ k2 =>
            have H := HA.out
            clear HA
            simp only [tilefarmref4_Valid.l0] at H
            by_cases c9 : x3_2 < (l0_3.length : Int)
            · rw [if_pos c9] at H
              have c9b0 : decide (x3_2 < (l0_3.length : Int)) = true := decide_eq_true c9
              clear c9
              by_cases c10 : 0 ≤ x3_2
              · rw [if_pos c10] at H
                have c10b0 : decide (0 ≤ x3_2) = true := decide_eq_true c10
                clear c10
                by_cases c11 : (rd l0_3 x3_2) < 0
                · rw [if_pos c11] at H
                  have c11b0 : decide ((rd l0_3 x3_2) < 0) = true := decide_eq_true c11
                  clear c11
                  obtain rfl := Option.some.inj H
                  have hcz12_0 : wr.cell? ⟨gb263, 0, none⟩ = some (.int .i64 a0_0) := (blk_cell BK263.out 0).trans rfl
                  have hcz12_1 : wr.cell? ⟨gb263, 1, none⟩ = some (.int .i64 a0_1) := (blk_cell BK263.out 1).trans rfl
                  have hcz12_2 : wr.cell? ⟨gb263, 2, none⟩ = some (.int .i64 a0_2) := (blk_cell BK263.out 2).trans rfl
                  have hcz12_3 : wr.cell? ⟨gb263, 3, none⟩ = some (.slice A0_3 l0_3.length c0_3) := (blk_cell BK263.out 3).trans rfl
                  have hfz12_0 := blk_frozen BK263.out 0
                  have hfz12_1 := blk_frozen BK263.out 1
                  have hfz12_2 := blk_frozen BK263.out 2
                  have hfz12_3 := blk_frozen BK263.out 3
                  have p265 : 0 ≤ (x3_2 : Int) := of_decide_eq_true q170_
                  have q265 : x3_2 < (l0_3.length : Int) := of_decide_eq_true q170_
                  obtain ⟨ad265, e265, hx265_0⟩ := Kd.at_int HR0_3.out x3_2 p265 q265
                  cases e265
                  replace hx265_0 := (HB.out.cell (World.block_lt_of_cell? w _ hx265_0)).trans hx265_0
                  replace p265 := eq_true p265
                  replace q265 := eq_true q265
                  go_wp2
                  repeat (go_quiet (fail); try go_wp2)
                  go_ret
                  exact ⟨q165_, q100_⟩
                · rw [if_neg c11] at H
                  have c11b0 : decide ((rd l0_3 x3_2) < 0) = false := decide_eq_false c11
                  clear c11
                  by_cases c13 : (rd l0_3 x3_2) > a0_2
                  · rw [if_pos c13] at H
                    have c13b0 : decide (a0_2 < (rd l0_3 x3_2)) = true := decide_eq_true c13
                    clear c13
                    obtain rfl := Option.some.inj H
                    have hcz14_0 : wr.cell? ⟨gb263, 0, none⟩ = some (.int .i64 a0_0) := (blk_cell BK263.out 0).trans rfl
                    have hcz14_1 : wr.cell? ⟨gb263, 1, none⟩ = some (.int .i64 a0_1) := (blk_cell BK263.out 1).trans rfl
                    have hcz14_2 : wr.cell? ⟨gb263, 2, none⟩ = some (.int .i64 a0_2) := (blk_cell BK263.out 2).trans rfl
                    have hcz14_3 : wr.cell? ⟨gb263, 3, none⟩ = some (.slice A0_3 l0_3.length c0_3) := (blk_cell BK263.out 3).trans rfl
                    have hfz14_0 := blk_frozen BK263.out 0
                    have hfz14_1 := blk_frozen BK263.out 1
                    have hfz14_2 := blk_frozen BK263.out 2
                    have hfz14_3 := blk_frozen BK263.out 3
                    have p265 : 0 ≤ (x3_2 : Int) := of_decide_eq_true q170_
                    have q265 : x3_2 < (l0_3.length : Int) := of_decide_eq_true q170_
                    obtain ⟨ad265, e265, hx265_0⟩ := Kd.at_int HR0_3.out x3_2 p265 q265
                    cases e265
                    replace hx265_0 := (HB.out.cell (World.block_lt_of_cell? w _ hx265_0)).trans hx265_0
                    replace p265 := eq_true p265
                    replace q265 := eq_true q265
                    have p266 : 0 ≤ (x3_2 : Int) := of_decide_eq_true q170_
                    have q266 : x3_2 < (l0_3.length : Int) := of_decide_eq_true q170_
                    obtain ⟨ad266, e266, hx266_0⟩ := Kd.at_int HR0_3.out x3_2 p266 q266
                    obtain rfl : ad265 = ad266 := (by injection e266)
                    replace hx266_0 := (HB.out.cell (World.block_lt_of_cell? w _ hx266_0)).trans hx266_0
                    replace p266 := eq_true p266
                    replace q266 := eq_true q266
                    go_wp2
                    repeat (go_quiet (fail); try go_wp2)
                    go_ret
                    exact ⟨q165_, q100_⟩
                  · rw [if_neg c13] at H
                    have c13b0 : decide (a0_2 < (rd l0_3 x3_2)) = false := decide_eq_false c13
                    clear c13
                    have H' := Aside0.mk H
                    clear H
                    have hcz15_0 : wr.cell? ⟨gb263, 0, none⟩ = some (.int .i64 a0_0) := (blk_cell BK263.out 0).trans rfl
                    have hcz15_1 : wr.cell? ⟨gb263, 1, none⟩ = some (.int .i64 a0_1) := (blk_cell BK263.out 1).trans rfl
                    have hcz15_2 : wr.cell? ⟨gb263, 2, none⟩ = some (.int .i64 a0_2) := (blk_cell BK263.out 2).trans rfl
                    have hcz15_3 : wr.cell? ⟨gb263, 3, none⟩ = some (.slice A0_3 l0_3.length c0_3) := (blk_cell BK263.out 3).trans rfl
                    have hfz15_0 := blk_frozen BK263.out 0
                    have hfz15_1 := blk_frozen BK263.out 1
                    have hfz15_2 := blk_frozen BK263.out 2
                    have hfz15_3 := blk_frozen BK263.out 3
                    have p265 : 0 ≤ (x3_2 : Int) := of_decide_eq_true q170_
                    have q265 : x3_2 < (l0_3.length : Int) := of_decide_eq_true q170_
                    obtain ⟨ad265, e265, hx265_0⟩ := Kd.at_int HR0_3.out x3_2 p265 q265
                    cases e265
                    replace hx265_0 := (HB.out.cell (World.block_lt_of_cell? w _ hx265_0)).trans hx265_0
                    replace p265 := eq_true p265
                    replace q265 := eq_true q265
                    have p266 : 0 ≤ (x3_2 : Int) := of_decide_eq_true q170_
                    have q266 : x3_2 < (l0_3.length : Int) := of_decide_eq_true q170_
                    obtain ⟨ad266, e266, hx266_0⟩ := Kd.at_int HR0_3.out x3_2 p266 q266
                    obtain rfl : ad265 = ad266 := (by injection e266)
                    replace hx266_0 := (HB.out.cell (World.block_lt_of_cell? w _ hx266_0)).trans hx266_0
                    replace p266 := eq_true p266
                    replace q266 := eq_true q266
                    go_wp2
                    repeat (go_quiet (fail); try go_wp2)
                    go_roundg k2
                    case measure => have := HJ1.out; have := HK2.out; omega
                    case rel => exact ⟨(wrap64 (x3_2 + 1)), q171_, H', ⟨q172_⟩, ⟨q139_⟩, ⟨q100_⟩⟩
              · rw [if_neg c10] at H
                exact absurd H (by simp)
            · rw [if_neg c9] at H
              have c9b0 : decide (x3_2 < (l0_3.length : Int)) = false := decide_eq_false c9
              clear c9
              obtain rfl := Option.some.inj H
              have hcz16_0 : wr.cell? ⟨gb263, 0, none⟩ = some (.int .i64 a0_0) := (blk_cell BK263.out 0).trans rfl
              have hcz16_1 : wr.cell? ⟨gb263, 1, none⟩ = some (.int .i64 a0_1) := (blk_cell BK263.out 1).trans rfl
              have hcz16_2 : wr.cell? ⟨gb263, 2, none⟩ = some (.int .i64 a0_2) := (blk_cell BK263.out 2).trans rfl
              have hcz16_3 : wr.cell? ⟨gb263, 3, none⟩ = some (.slice A0_3 l0_3.length c0_3) := (blk_cell BK263.out 3).trans rfl
              have hfz16_0 := blk_frozen BK263.out 0
              have hfz16_1 := blk_frozen BK263.out 1
              have hfz16_2 := blk_frozen BK263.out 2
              have hfz16_3 := blk_frozen BK263.out 3
              go_wp2
              repeat (go_quiet (fail); try go_wp2)
              go_ret
              exact ⟨q165_, q100_⟩


def tilefarmref2_Empty.f (a0_0 : Int) (a0_1 : Int) (a0_2 : Int) (a0_3 : Int) : Option (Bool) := some (a0_0 == 0 && (a0_1 == 0 && (a0_2 == 0 && (a0_3 == 0))))
set_option maxHeartbeats 8000000 in
set_option maxRecDepth 100000 in
theorem tilefarmref2_Empty.calls (a0_0 : Int) (a0_1 : Int) (a0_2 : Int) (a0_3 : Int) (r : Bool) (w : World) (h : tilefarmref2_Empty.f a0_0 a0_1 a0_2 a0_3 = some r) :
    Calls Try.prog 53 #[.agg #[.int .i64 a0_0, .int .i64 a0_1, .int .i64 a0_2, .int .i64 a0_3]] w fun e w' => e = .returned (.bool r) ∧ Below w.heap.size w w' := by
  have hu33 := Try.underlying33
  have HB := Aside0.mk (Below.refl w.heap.size w)
  have H : (some (a0_0 == 0 && (a0_1 == 0 && (a0_2 == 0 && (a0_3 == 0))))) = some r := h
  clear h
  obtain rfl := Option.some.inj H
  go_enter Try.func53, Try.ntmps53
  go_wp2_with (first | ((with_reducible refine gate_dst (N := 1) rfl ?_); refine box_event ?hg (N := 1) ?hd (cs := #[.int .i64 a0_0, .int .i64 a0_1, .int .i64 a0_2, .int .i64 a0_3]) (t := 33) ?hr ?_; (case hd => rfl); (case hg => rfl); (case hr => first | (go_simp; done) | (go_simp; rfl)); intro gb267 hg w2 hbox hb; have n0_ := Aside0.mk (below_step q114_ hb); have n1_ := Aside0.mk (hbox); have n2_ := Aside0.mk ((q89_ : w.heap.size ≤ gb267)); have n3_ := Aside0.mk ((q89_ : w.heap.size ≤ gb267)); clear HB; have HB := n0_; have BK267 := n1_; have GW267 := n2_; have GE267 := n3_; clear n0_ n1_ n2_ n3_; clear hb hbox hg; have hcz3_0 : w2.cell? ⟨gb267, 0, none⟩ = some (.int .i64 a0_0) := (blk_cell BK267.out 0).trans rfl; have hcz3_1 : w2.cell? ⟨gb267, 1, none⟩ = some (.int .i64 a0_1) := (blk_cell BK267.out 1).trans rfl; have hcz3_2 : w2.cell? ⟨gb267, 2, none⟩ = some (.int .i64 a0_2) := (blk_cell BK267.out 2).trans rfl; have hcz3_3 : w2.cell? ⟨gb267, 3, none⟩ = some (.int .i64 a0_3) := (blk_cell BK267.out 3).trans rfl; have hfz3_0 := blk_frozen BK267.out 0; have hfz3_1 := blk_frozen BK267.out 1; have hfz3_2 := blk_frozen BK267.out 2; have hfz3_3 := blk_frozen BK267.out 3))
  go_ret
  exact ⟨q165_, by repeat (first | (with_reducible first | exact HB.out | apply below_alloc | apply pw_below_drewN | apply below_drew1 | refine below_set ?_ GE267.out) | exact HB.out)⟩


def tilefarmref2_coord.f (a0 : Int) : Option (Bool) := if a0 ≥ (-1048576) then (some (decide (a0 ≤ 1048576))) else (some false)
set_option maxHeartbeats 8000000 in
set_option maxRecDepth 100000 in
theorem tilefarmref2_coord.calls (a0 : Int) (r : Bool) (w : World) (h : tilefarmref2_coord.f a0 = some r) :
    Calls Try.prog 70 #[.int .i64 a0] w fun e w' => e = .returned (.bool r) ∧ Drawn0 w w' := by
  have H : (if a0 ≥ (-1048576) then (some (decide (a0 ≤ 1048576))) else (some false)) = some r := h
  clear h
  by_cases c2 : a0 ≥ (-1048576)
  · rw [if_pos c2] at H
    have c2b0 : decide ((-1048576) ≤ a0) = true := decide_eq_true c2
    clear c2
    obtain rfl := Option.some.inj H
    go_enter Try.func70, Try.ntmps70
    go_wp2
    go_ret
    exact ⟨q171_, q167_⟩
  · rw [if_neg c2] at H
    have c2b0 : decide ((-1048576) ≤ a0) = false := decide_eq_false c2
    clear c2
    obtain rfl := Option.some.inj H
    go_enter Try.func70, Try.ntmps70
    go_wp2
    go_ret
    exact ⟨q171_, q167_⟩


def tilefarmref2_Valid.f (a0_0 : Int) (a0_1 : Int) (a0_2 : Int) (a0_3 : Int) : Option (Bool) := if (a0_0 == 0 && (a0_1 == 0 && (a0_2 == 0 && (a0_3 == 0)))) = true then (some true) else ((tilefarmref2_coord.f a0_0).bind fun t269 => (if t269 = true then ((tilefarmref2_coord.f a0_1).bind fun t270 => (if t270 = true then ((tilefarmref2_coord.f a0_2).bind fun t271 => (if t271 = true then ((tilefarmref2_coord.f a0_3).bind fun t272 => (if t272 = true then (if a0_0 < a0_2 then (some (decide (a0_1 < a0_3))) else (some false)) else (some false))) else (some false))) else (some false))) else (some false)))
set_option maxHeartbeats 8000000 in
set_option maxRecDepth 100000 in
theorem tilefarmref2_Valid.calls (a0_0 : Int) (a0_1 : Int) (a0_2 : Int) (a0_3 : Int) (r : Bool) (w : World) (h : tilefarmref2_Valid.f a0_0 a0_1 a0_2 a0_3 = some r) :
    Calls Try.prog 65 #[.agg #[.int .i64 a0_0, .int .i64 a0_1, .int .i64 a0_2, .int .i64 a0_3]] w fun e w' => e = .returned (.bool r) ∧ Below w.heap.size w w' := by
  have hu33 := Try.underlying33
  have HB := Aside0.mk (Below.refl w.heap.size w)
  have H : (if (a0_0 == 0 && (a0_1 == 0 && (a0_2 == 0 && (a0_3 == 0)))) = true then (some true) else ((tilefarmref2_coord.f a0_0).bind fun t269 => (if t269 = true then ((tilefarmref2_coord.f a0_1).bind fun t270 => (if t270 = true then ((tilefarmref2_coord.f a0_2).bind fun t271 => (if t271 = true then ((tilefarmref2_coord.f a0_3).bind fun t272 => (if t272 = true then (if a0_0 < a0_2 then (some (decide (a0_1 < a0_3))) else (some false)) else (some false))) else (some false))) else (some false))) else (some false)))) = some r := h
  clear h
  by_cases c2 : (a0_0 == 0 && (a0_1 == 0 && (a0_2 == 0 && (a0_3 == 0)))) = true
  · rw [if_pos c2] at H
    have c2b0 : (a0_0 == 0 && (a0_1 == 0 && (a0_2 == 0 && (a0_3 == 0)))) = true := c2
    (try (have c2b1 : decide (a0_0 = 0 && (a0_1 == 0 && (a0_2 == 0 && (a0_3 == 0)))) = true := by simpa using c2))
    (try (have c2b2 : (a0_0 == 0 && (a0_1 == 0 && (a0_2 == 0 && (a0_3 == 0)))) = true := by simpa using c2))
    clear c2
    obtain rfl := Option.some.inj H
    go_enter Try.func65, Try.ntmps65
    go_wp2_with (first | ((with_reducible refine gate_dst (N := 1) rfl ?_); refine box_event ?hg (N := 1) ?hd (cs := #[.int .i64 a0_0, .int .i64 a0_1, .int .i64 a0_2, .int .i64 a0_3]) (t := 33) ?hr ?_; (case hd => rfl); (case hg => rfl); (case hr => first | (go_simp; done) | (go_simp; rfl)); intro gb268 hg w3 hbox hb; have n0_ := Aside0.mk (below_step q114_ hb); have n1_ := Aside0.mk (hbox); have n2_ := Aside0.mk ((q89_ : w.heap.size ≤ gb268)); have n3_ := Aside0.mk ((q89_ : w.heap.size ≤ gb268)); clear HB; have HB := n0_; have BK268 := n1_; have GW268 := n2_; have GE268 := n3_; clear n0_ n1_ n2_ n3_; clear hb hbox hg; have hcz4_0 : w3.cell? ⟨gb268, 0, none⟩ = some (.int .i64 a0_0) := (blk_cell BK268.out 0).trans rfl; have hcz4_1 : w3.cell? ⟨gb268, 1, none⟩ = some (.int .i64 a0_1) := (blk_cell BK268.out 1).trans rfl; have hcz4_2 : w3.cell? ⟨gb268, 2, none⟩ = some (.int .i64 a0_2) := (blk_cell BK268.out 2).trans rfl; have hcz4_3 : w3.cell? ⟨gb268, 3, none⟩ = some (.int .i64 a0_3) := (blk_cell BK268.out 3).trans rfl; have hfz4_0 := blk_frozen BK268.out 0; have hfz4_1 := blk_frozen BK268.out 1; have hfz4_2 := blk_frozen BK268.out 2; have hfz4_3 := blk_frozen BK268.out 3))
    go_ret
    exact ⟨q165_, q101_⟩
  · rw [if_neg c2] at H
    have c2b0 : (a0_0 == 0 && (a0_1 == 0 && (a0_2 == 0 && (a0_3 == 0)))) = false := by simpa using c2
    (try (have c2b1 : decide (a0_0 = 0 && (a0_1 == 0 && (a0_2 == 0 && (a0_3 == 0)))) = false := by simpa using c2))
    (try (have c2b2 : (a0_0 == 0 && (a0_1 == 0 && (a0_2 == 0 && (a0_3 == 0)))) = false := by simpa using c2))
    (try (have c2b3 : ¬ (a0_0 = 0 && (a0_1 == 0 && (a0_2 == 0 && (a0_3 == 0)))) := by simpa using c2))
    clear c2
    replace H := Option.bind_eq_some_iff.mp H
    obtain ⟨t269, A50, H⟩ := H
    replace H : (if t269 = true then ((tilefarmref2_coord.f a0_1).bind fun t270 => (if t270 = true then ((tilefarmref2_coord.f a0_2).bind fun t271 => (if t271 = true then ((tilefarmref2_coord.f a0_3).bind fun t272 => (if t272 = true then (if a0_0 < a0_2 then (some (decide (a0_1 < a0_3))) else (some false)) else (some false))) else (some false))) else (some false))) else (some false)) = some r := H
    have A5 := Aside0.mk A50
    clear A50
    by_cases c6 : t269 = true
    · subst c6
      have H1 : ((tilefarmref2_coord.f a0_1).bind fun t270 => (if t270 = true then ((tilefarmref2_coord.f a0_2).bind fun t271 => (if t271 = true then ((tilefarmref2_coord.f a0_3).bind fun t272 => (if t272 = true then (if a0_0 < a0_2 then (some (decide (a0_1 < a0_3))) else (some false)) else (some false))) else (some false))) else (some false))) = some r := by rw [if_pos rfl] at H; exact H
      clear H
      have H := H1
      clear H1
      replace H := Option.bind_eq_some_iff.mp H
      obtain ⟨t270, A70, H⟩ := H
      replace H : (if t270 = true then ((tilefarmref2_coord.f a0_2).bind fun t271 => (if t271 = true then ((tilefarmref2_coord.f a0_3).bind fun t272 => (if t272 = true then (if a0_0 < a0_2 then (some (decide (a0_1 < a0_3))) else (some false)) else (some false))) else (some false))) else (some false)) = some r := H
      have A7 := Aside0.mk A70
      clear A70
      by_cases c8 : t270 = true
      · subst c8
        have H1 : ((tilefarmref2_coord.f a0_2).bind fun t271 => (if t271 = true then ((tilefarmref2_coord.f a0_3).bind fun t272 => (if t272 = true then (if a0_0 < a0_2 then (some (decide (a0_1 < a0_3))) else (some false)) else (some false))) else (some false))) = some r := by rw [if_pos rfl] at H; exact H
        clear H
        have H := H1
        clear H1
        replace H := Option.bind_eq_some_iff.mp H
        obtain ⟨t271, A90, H⟩ := H
        replace H : (if t271 = true then ((tilefarmref2_coord.f a0_3).bind fun t272 => (if t272 = true then (if a0_0 < a0_2 then (some (decide (a0_1 < a0_3))) else (some false)) else (some false))) else (some false)) = some r := H
        have A9 := Aside0.mk A90
        clear A90
        by_cases c10 : t271 = true
        · subst c10
          have H1 : ((tilefarmref2_coord.f a0_3).bind fun t272 => (if t272 = true then (if a0_0 < a0_2 then (some (decide (a0_1 < a0_3))) else (some false)) else (some false))) = some r := by rw [if_pos rfl] at H; exact H
          clear H
          have H := H1
          clear H1
          replace H := Option.bind_eq_some_iff.mp H
          obtain ⟨t272, A110, H⟩ := H
          replace H : (if t272 = true then (if a0_0 < a0_2 then (some (decide (a0_1 < a0_3))) else (some false)) else (some false)) = some r := H
          have A11 := Aside0.mk A110
          clear A110
          by_cases c12 : t272 = true
          · subst c12
            have H1 : (if a0_0 < a0_2 then (some (decide (a0_1 < a0_3))) else (some false)) = some r := by rw [if_pos rfl] at H; exact H
            clear H
            have H := H1
            clear H1
            by_cases c13 : a0_0 < a0_2
            · rw [if_pos c13] at H
              have c13b0 : decide (a0_0 < a0_2) = true := decide_eq_true c13
              clear c13
              obtain rfl := Option.some.inj H
              go_enter Try.func65, Try.ntmps65
              go_wp2_with (first | ((with_reducible refine gate_dst (N := 1) rfl ?_); refine box_event ?hg (N := 1) ?hd (cs := #[.int .i64 a0_0, .int .i64 a0_1, .int .i64 a0_2, .int .i64 a0_3]) (t := 33) ?hr ?_; (case hd => rfl); (case hg => rfl); (case hr => first | (go_simp; done) | (go_simp; rfl)); intro gb268 hg w14 hbox hb; have n0_ := Aside0.mk (below_step q114_ hb); have n1_ := Aside0.mk (hbox); have n2_ := Aside0.mk ((q89_ : w.heap.size ≤ gb268)); have n3_ := Aside0.mk ((q89_ : w.heap.size ≤ gb268)); clear HB; have HB := n0_; have BK268 := n1_; have GW268 := n2_; have GE268 := n3_; clear n0_ n1_ n2_ n3_; clear hb hbox hg; have hcz15_0 : w14.cell? ⟨gb268, 0, none⟩ = some (.int .i64 a0_0) := (blk_cell BK268.out 0).trans rfl; have hcz15_1 : w14.cell? ⟨gb268, 1, none⟩ = some (.int .i64 a0_1) := (blk_cell BK268.out 1).trans rfl; have hcz15_2 : w14.cell? ⟨gb268, 2, none⟩ = some (.int .i64 a0_2) := (blk_cell BK268.out 2).trans rfl; have hcz15_3 : w14.cell? ⟨gb268, 3, none⟩ = some (.int .i64 a0_3) := (blk_cell BK268.out 3).trans rfl; have hfz15_0 := blk_frozen BK268.out 0; have hfz15_1 := blk_frozen BK268.out 1; have hfz15_2 := blk_frozen BK268.out 2; have hfz15_3 := blk_frozen BK268.out 3) | (go_at_call 70; (with_reducible refine (tilefarmref2_coord.calls a0_0 true _ A5.out).mono ?_); rintro e w' ⟨rfl, ⟨nd, rfl⟩⟩) | (go_at_call 70; (with_reducible refine (tilefarmref2_coord.calls a0_1 true _ A7.out).mono ?_); rintro e w' ⟨rfl, ⟨nd, rfl⟩⟩) | (go_at_call 70; (with_reducible refine (tilefarmref2_coord.calls a0_2 true _ A9.out).mono ?_); rintro e w' ⟨rfl, ⟨nd, rfl⟩⟩) | (go_at_call 70; (with_reducible refine (tilefarmref2_coord.calls a0_3 true _ A11.out).mono ?_); rintro e w' ⟨rfl, ⟨nd, rfl⟩⟩))
              go_ret
              exact ⟨q165_, q101_⟩
            · rw [if_neg c13] at H
              have c13b0 : decide (a0_0 < a0_2) = false := decide_eq_false c13
              clear c13
              obtain rfl := Option.some.inj H
              go_enter Try.func65, Try.ntmps65
              go_wp2_with (first | ((with_reducible refine gate_dst (N := 1) rfl ?_); refine box_event ?hg (N := 1) ?hd (cs := #[.int .i64 a0_0, .int .i64 a0_1, .int .i64 a0_2, .int .i64 a0_3]) (t := 33) ?hr ?_; (case hd => rfl); (case hg => rfl); (case hr => first | (go_simp; done) | (go_simp; rfl)); intro gb268 hg w16 hbox hb; have n0_ := Aside0.mk (below_step q114_ hb); have n1_ := Aside0.mk (hbox); have n2_ := Aside0.mk ((q89_ : w.heap.size ≤ gb268)); have n3_ := Aside0.mk ((q89_ : w.heap.size ≤ gb268)); clear HB; have HB := n0_; have BK268 := n1_; have GW268 := n2_; have GE268 := n3_; clear n0_ n1_ n2_ n3_; clear hb hbox hg; have hcz17_0 : w16.cell? ⟨gb268, 0, none⟩ = some (.int .i64 a0_0) := (blk_cell BK268.out 0).trans rfl; have hcz17_1 : w16.cell? ⟨gb268, 1, none⟩ = some (.int .i64 a0_1) := (blk_cell BK268.out 1).trans rfl; have hcz17_2 : w16.cell? ⟨gb268, 2, none⟩ = some (.int .i64 a0_2) := (blk_cell BK268.out 2).trans rfl; have hcz17_3 : w16.cell? ⟨gb268, 3, none⟩ = some (.int .i64 a0_3) := (blk_cell BK268.out 3).trans rfl; have hfz17_0 := blk_frozen BK268.out 0; have hfz17_1 := blk_frozen BK268.out 1; have hfz17_2 := blk_frozen BK268.out 2; have hfz17_3 := blk_frozen BK268.out 3) | (go_at_call 70; (with_reducible refine (tilefarmref2_coord.calls a0_0 true _ A5.out).mono ?_); rintro e w' ⟨rfl, ⟨nd, rfl⟩⟩) | (go_at_call 70; (with_reducible refine (tilefarmref2_coord.calls a0_1 true _ A7.out).mono ?_); rintro e w' ⟨rfl, ⟨nd, rfl⟩⟩) | (go_at_call 70; (with_reducible refine (tilefarmref2_coord.calls a0_2 true _ A9.out).mono ?_); rintro e w' ⟨rfl, ⟨nd, rfl⟩⟩) | (go_at_call 70; (with_reducible refine (tilefarmref2_coord.calls a0_3 true _ A11.out).mono ?_); rintro e w' ⟨rfl, ⟨nd, rfl⟩⟩))
              go_ret
              exact ⟨q165_, q101_⟩
          · replace c12 := Bool.eq_false_iff.mpr c12
            subst c12
            have H1 : (some false) = some r := by rw [if_neg (show ¬ (false = true) by decide)] at H; exact H
            clear H
            have H := H1
            clear H1
            obtain rfl := Option.some.inj H
            go_enter Try.func65, Try.ntmps65
            go_wp2_with (first | ((with_reducible refine gate_dst (N := 1) rfl ?_); refine box_event ?hg (N := 1) ?hd (cs := #[.int .i64 a0_0, .int .i64 a0_1, .int .i64 a0_2, .int .i64 a0_3]) (t := 33) ?hr ?_; (case hd => rfl); (case hg => rfl); (case hr => first | (go_simp; done) | (go_simp; rfl)); intro gb268 hg w18 hbox hb; have n0_ := Aside0.mk (below_step q114_ hb); have n1_ := Aside0.mk (hbox); have n2_ := Aside0.mk ((q89_ : w.heap.size ≤ gb268)); have n3_ := Aside0.mk ((q89_ : w.heap.size ≤ gb268)); clear HB; have HB := n0_; have BK268 := n1_; have GW268 := n2_; have GE268 := n3_; clear n0_ n1_ n2_ n3_; clear hb hbox hg; have hcz19_0 : w18.cell? ⟨gb268, 0, none⟩ = some (.int .i64 a0_0) := (blk_cell BK268.out 0).trans rfl; have hcz19_1 : w18.cell? ⟨gb268, 1, none⟩ = some (.int .i64 a0_1) := (blk_cell BK268.out 1).trans rfl; have hcz19_2 : w18.cell? ⟨gb268, 2, none⟩ = some (.int .i64 a0_2) := (blk_cell BK268.out 2).trans rfl; have hcz19_3 : w18.cell? ⟨gb268, 3, none⟩ = some (.int .i64 a0_3) := (blk_cell BK268.out 3).trans rfl; have hfz19_0 := blk_frozen BK268.out 0; have hfz19_1 := blk_frozen BK268.out 1; have hfz19_2 := blk_frozen BK268.out 2; have hfz19_3 := blk_frozen BK268.out 3) | (go_at_call 70; (with_reducible refine (tilefarmref2_coord.calls a0_0 true _ A5.out).mono ?_); rintro e w' ⟨rfl, ⟨nd, rfl⟩⟩) | (go_at_call 70; (with_reducible refine (tilefarmref2_coord.calls a0_1 true _ A7.out).mono ?_); rintro e w' ⟨rfl, ⟨nd, rfl⟩⟩) | (go_at_call 70; (with_reducible refine (tilefarmref2_coord.calls a0_2 true _ A9.out).mono ?_); rintro e w' ⟨rfl, ⟨nd, rfl⟩⟩) | (go_at_call 70; (with_reducible refine (tilefarmref2_coord.calls a0_3 false _ A11.out).mono ?_); rintro e w' ⟨rfl, ⟨nd, rfl⟩⟩))
            go_ret
            exact ⟨q165_, q101_⟩
        · replace c10 := Bool.eq_false_iff.mpr c10
          subst c10
          have H1 : (some false) = some r := by rw [if_neg (show ¬ (false = true) by decide)] at H; exact H
          clear H
          have H := H1
          clear H1
          obtain rfl := Option.some.inj H
          go_enter Try.func65, Try.ntmps65
          go_wp2_with (first | ((with_reducible refine gate_dst (N := 1) rfl ?_); refine box_event ?hg (N := 1) ?hd (cs := #[.int .i64 a0_0, .int .i64 a0_1, .int .i64 a0_2, .int .i64 a0_3]) (t := 33) ?hr ?_; (case hd => rfl); (case hg => rfl); (case hr => first | (go_simp; done) | (go_simp; rfl)); intro gb268 hg w20 hbox hb; have n0_ := Aside0.mk (below_step q114_ hb); have n1_ := Aside0.mk (hbox); have n2_ := Aside0.mk ((q89_ : w.heap.size ≤ gb268)); have n3_ := Aside0.mk ((q89_ : w.heap.size ≤ gb268)); clear HB; have HB := n0_; have BK268 := n1_; have GW268 := n2_; have GE268 := n3_; clear n0_ n1_ n2_ n3_; clear hb hbox hg; have hcz21_0 : w20.cell? ⟨gb268, 0, none⟩ = some (.int .i64 a0_0) := (blk_cell BK268.out 0).trans rfl; have hcz21_1 : w20.cell? ⟨gb268, 1, none⟩ = some (.int .i64 a0_1) := (blk_cell BK268.out 1).trans rfl; have hcz21_2 : w20.cell? ⟨gb268, 2, none⟩ = some (.int .i64 a0_2) := (blk_cell BK268.out 2).trans rfl; have hcz21_3 : w20.cell? ⟨gb268, 3, none⟩ = some (.int .i64 a0_3) := (blk_cell BK268.out 3).trans rfl; have hfz21_0 := blk_frozen BK268.out 0; have hfz21_1 := blk_frozen BK268.out 1; have hfz21_2 := blk_frozen BK268.out 2; have hfz21_3 := blk_frozen BK268.out 3) | (go_at_call 70; (with_reducible refine (tilefarmref2_coord.calls a0_0 true _ A5.out).mono ?_); rintro e w' ⟨rfl, ⟨nd, rfl⟩⟩) | (go_at_call 70; (with_reducible refine (tilefarmref2_coord.calls a0_1 true _ A7.out).mono ?_); rintro e w' ⟨rfl, ⟨nd, rfl⟩⟩) | (go_at_call 70; (with_reducible refine (tilefarmref2_coord.calls a0_2 false _ A9.out).mono ?_); rintro e w' ⟨rfl, ⟨nd, rfl⟩⟩))
          go_ret
          exact ⟨q165_, q101_⟩
      · replace c8 := Bool.eq_false_iff.mpr c8
        subst c8
        have H1 : (some false) = some r := by rw [if_neg (show ¬ (false = true) by decide)] at H; exact H
        clear H
        have H := H1
        clear H1
        obtain rfl := Option.some.inj H
        go_enter Try.func65, Try.ntmps65
        go_wp2_with (first | ((with_reducible refine gate_dst (N := 1) rfl ?_); refine box_event ?hg (N := 1) ?hd (cs := #[.int .i64 a0_0, .int .i64 a0_1, .int .i64 a0_2, .int .i64 a0_3]) (t := 33) ?hr ?_; (case hd => rfl); (case hg => rfl); (case hr => first | (go_simp; done) | (go_simp; rfl)); intro gb268 hg w22 hbox hb; have n0_ := Aside0.mk (below_step q114_ hb); have n1_ := Aside0.mk (hbox); have n2_ := Aside0.mk ((q89_ : w.heap.size ≤ gb268)); have n3_ := Aside0.mk ((q89_ : w.heap.size ≤ gb268)); clear HB; have HB := n0_; have BK268 := n1_; have GW268 := n2_; have GE268 := n3_; clear n0_ n1_ n2_ n3_; clear hb hbox hg; have hcz23_0 : w22.cell? ⟨gb268, 0, none⟩ = some (.int .i64 a0_0) := (blk_cell BK268.out 0).trans rfl; have hcz23_1 : w22.cell? ⟨gb268, 1, none⟩ = some (.int .i64 a0_1) := (blk_cell BK268.out 1).trans rfl; have hcz23_2 : w22.cell? ⟨gb268, 2, none⟩ = some (.int .i64 a0_2) := (blk_cell BK268.out 2).trans rfl; have hcz23_3 : w22.cell? ⟨gb268, 3, none⟩ = some (.int .i64 a0_3) := (blk_cell BK268.out 3).trans rfl; have hfz23_0 := blk_frozen BK268.out 0; have hfz23_1 := blk_frozen BK268.out 1; have hfz23_2 := blk_frozen BK268.out 2; have hfz23_3 := blk_frozen BK268.out 3) | (go_at_call 70; (with_reducible refine (tilefarmref2_coord.calls a0_0 true _ A5.out).mono ?_); rintro e w' ⟨rfl, ⟨nd, rfl⟩⟩) | (go_at_call 70; (with_reducible refine (tilefarmref2_coord.calls a0_1 false _ A7.out).mono ?_); rintro e w' ⟨rfl, ⟨nd, rfl⟩⟩))
        go_ret
        exact ⟨q165_, q101_⟩
    · replace c6 := Bool.eq_false_iff.mpr c6
      subst c6
      have H1 : (some false) = some r := by rw [if_neg (show ¬ (false = true) by decide)] at H; exact H
      clear H
      have H := H1
      clear H1
      obtain rfl := Option.some.inj H
      go_enter Try.func65, Try.ntmps65
      go_wp2_with (first | ((with_reducible refine gate_dst (N := 1) rfl ?_); refine box_event ?hg (N := 1) ?hd (cs := #[.int .i64 a0_0, .int .i64 a0_1, .int .i64 a0_2, .int .i64 a0_3]) (t := 33) ?hr ?_; (case hd => rfl); (case hg => rfl); (case hr => first | (go_simp; done) | (go_simp; rfl)); intro gb268 hg w24 hbox hb; have n0_ := Aside0.mk (below_step q114_ hb); have n1_ := Aside0.mk (hbox); have n2_ := Aside0.mk ((q89_ : w.heap.size ≤ gb268)); have n3_ := Aside0.mk ((q89_ : w.heap.size ≤ gb268)); clear HB; have HB := n0_; have BK268 := n1_; have GW268 := n2_; have GE268 := n3_; clear n0_ n1_ n2_ n3_; clear hb hbox hg; have hcz25_0 : w24.cell? ⟨gb268, 0, none⟩ = some (.int .i64 a0_0) := (blk_cell BK268.out 0).trans rfl; have hcz25_1 : w24.cell? ⟨gb268, 1, none⟩ = some (.int .i64 a0_1) := (blk_cell BK268.out 1).trans rfl; have hcz25_2 : w24.cell? ⟨gb268, 2, none⟩ = some (.int .i64 a0_2) := (blk_cell BK268.out 2).trans rfl; have hcz25_3 : w24.cell? ⟨gb268, 3, none⟩ = some (.int .i64 a0_3) := (blk_cell BK268.out 3).trans rfl; have hfz25_0 := blk_frozen BK268.out 0; have hfz25_1 := blk_frozen BK268.out 1; have hfz25_2 := blk_frozen BK268.out 2; have hfz25_3 := blk_frozen BK268.out 3) | (go_at_call 70; (with_reducible refine (tilefarmref2_coord.calls a0_0 false _ A5.out).mono ?_); rintro e w' ⟨rfl, ⟨nd, rfl⟩⟩))
      go_ret
      exact ⟨q165_, q101_⟩


def tilefarmref2_Inside.f (a0_0 : Int) (a0_1 : Int) (a0_2 : Int) (a0_3 : Int) (a1_0 : Int) (a1_1 : Int) (a1_2 : Int) (a1_3 : Int) : Option (Bool) := (tilefarmref2_Valid.f a0_0 a0_1 a0_2 a0_3).bind fun t275 => (if t275 = true then ((tilefarmref2_Valid.f a1_0 a1_1 a1_2 a1_3).bind fun t276 => (if t276 = true then ((tilefarmref2_Empty.f a0_0 a0_1 a0_2 a0_3).bind fun t277 => (if t277 = true then (some true) else (if a0_0 ≥ a1_0 then (if a0_1 ≥ a1_1 then (if a0_2 ≤ a1_2 then (some (decide (a0_3 ≤ a1_3))) else (some false)) else (some false)) else (some false)))) else (some false))) else (some false))
set_option maxHeartbeats 8000000 in
set_option maxRecDepth 100000 in
theorem tilefarmref2_Inside.calls (a0_0 : Int) (a0_1 : Int) (a0_2 : Int) (a0_3 : Int) (a1_0 : Int) (a1_1 : Int) (a1_2 : Int) (a1_3 : Int) (r : Bool) (w : World) (h : tilefarmref2_Inside.f a0_0 a0_1 a0_2 a0_3 a1_0 a1_1 a1_2 a1_3 = some r) :
    Calls Try.prog 46 #[.agg #[.int .i64 a0_0, .int .i64 a0_1, .int .i64 a0_2, .int .i64 a0_3], .agg #[.int .i64 a1_0, .int .i64 a1_1, .int .i64 a1_2, .int .i64 a1_3]] w fun e w' => e = .returned (.bool r) ∧ Below w.heap.size w w' := by
  have hu33 := Try.underlying33
  have HB := Aside0.mk (Below.refl w.heap.size w)
  have H : ((tilefarmref2_Valid.f a0_0 a0_1 a0_2 a0_3).bind fun t275 => (if t275 = true then ((tilefarmref2_Valid.f a1_0 a1_1 a1_2 a1_3).bind fun t276 => (if t276 = true then ((tilefarmref2_Empty.f a0_0 a0_1 a0_2 a0_3).bind fun t277 => (if t277 = true then (some true) else (if a0_0 ≥ a1_0 then (if a0_1 ≥ a1_1 then (if a0_2 ≤ a1_2 then (some (decide (a0_3 ≤ a1_3))) else (some false)) else (some false)) else (some false)))) else (some false))) else (some false))) = some r := h
  clear h
  replace H := Option.bind_eq_some_iff.mp H
  obtain ⟨t275, A30, H⟩ := H
  replace H : (if t275 = true then ((tilefarmref2_Valid.f a1_0 a1_1 a1_2 a1_3).bind fun t276 => (if t276 = true then ((tilefarmref2_Empty.f a0_0 a0_1 a0_2 a0_3).bind fun t277 => (if t277 = true then (some true) else (if a0_0 ≥ a1_0 then (if a0_1 ≥ a1_1 then (if a0_2 ≤ a1_2 then (some (decide (a0_3 ≤ a1_3))) else (some false)) else (some false)) else (some false)))) else (some false))) else (some false)) = some r := H
  have A3 := Aside0.mk A30
  clear A30
  by_cases c4 : t275 = true
  · subst c4
    have H1 : ((tilefarmref2_Valid.f a1_0 a1_1 a1_2 a1_3).bind fun t276 => (if t276 = true then ((tilefarmref2_Empty.f a0_0 a0_1 a0_2 a0_3).bind fun t277 => (if t277 = true then (some true) else (if a0_0 ≥ a1_0 then (if a0_1 ≥ a1_1 then (if a0_2 ≤ a1_2 then (some (decide (a0_3 ≤ a1_3))) else (some false)) else (some false)) else (some false)))) else (some false))) = some r := by rw [if_pos rfl] at H; exact H
    clear H
    have H := H1
    clear H1
    replace H := Option.bind_eq_some_iff.mp H
    obtain ⟨t276, A50, H⟩ := H
    replace H : (if t276 = true then ((tilefarmref2_Empty.f a0_0 a0_1 a0_2 a0_3).bind fun t277 => (if t277 = true then (some true) else (if a0_0 ≥ a1_0 then (if a0_1 ≥ a1_1 then (if a0_2 ≤ a1_2 then (some (decide (a0_3 ≤ a1_3))) else (some false)) else (some false)) else (some false)))) else (some false)) = some r := H
    have A5 := Aside0.mk A50
    clear A50
    by_cases c6 : t276 = true
    · subst c6
      have H1 : ((tilefarmref2_Empty.f a0_0 a0_1 a0_2 a0_3).bind fun t277 => (if t277 = true then (some true) else (if a0_0 ≥ a1_0 then (if a0_1 ≥ a1_1 then (if a0_2 ≤ a1_2 then (some (decide (a0_3 ≤ a1_3))) else (some false)) else (some false)) else (some false)))) = some r := by rw [if_pos rfl] at H; exact H
      clear H
      have H := H1
      clear H1
      replace H := Option.bind_eq_some_iff.mp H
      obtain ⟨t277, A70, H⟩ := H
      replace H : (if t277 = true then (some true) else (if a0_0 ≥ a1_0 then (if a0_1 ≥ a1_1 then (if a0_2 ≤ a1_2 then (some (decide (a0_3 ≤ a1_3))) else (some false)) else (some false)) else (some false))) = some r := H
      have A7 := Aside0.mk A70
      clear A70
      by_cases c8 : t277 = true
      · subst c8
        have H1 : (some true) = some r := by rw [if_pos rfl] at H; exact H
        clear H
        have H := H1
        clear H1
        obtain rfl := Option.some.inj H
        go_enter Try.func46, Try.ntmps46
        go_wp2_with (first | ((with_reducible refine gate_dst (N := 2) rfl ?_); refine box_event ?hg (N := 2) ?hd (cs := #[.int .i64 a0_0, .int .i64 a0_1, .int .i64 a0_2, .int .i64 a0_3]) (t := 33) ?hr ?_; (case hd => rfl); (case hg => rfl); (case hr => first | (go_simp; done) | (go_simp; rfl)); intro gb273 hg w9 hbox hb; have n0_ := Aside0.mk (below_step q114_ hb); have n1_ := Aside0.mk (hbox); have n2_ := Aside0.mk ((q89_ : w.heap.size ≤ gb273)); have n3_ := Aside0.mk ((q89_ : w.heap.size ≤ gb273)); clear HB; have HB := n0_; have BK273 := n1_; have GW273 := n2_; have GE273 := n3_; clear n0_ n1_ n2_ n3_; clear hb hbox hg) | ((with_reducible refine gate_dst (N := 3) rfl ?_); refine box_event ?hg (N := 3) ?hd (cs := #[.int .i64 a1_0, .int .i64 a1_1, .int .i64 a1_2, .int .i64 a1_3]) (t := 33) ?hr ?_; (case hd => rfl); (case hg => rfl); (case hr => first | (go_simp; done) | (go_simp; rfl)); intro gb274 hg w10 hbox hb; have n0_ := Aside0.mk (blk_below (g := gb273) (o := .cells #[.int .i64 a0_0, .int .i64 a0_1, .int .i64 a0_2, .int .i64 a0_3] 33 (0, 0)) q140_ hb); have n1_ := Aside0.mk (below_step q102_ hb); have n2_ := Aside0.mk (hbox); have n3_ := Aside0.mk ((q69_ : w.heap.size ≤ gb274)); have n4_ := Aside0.mk ((q69_ : w.heap.size ≤ gb274)); have n5_ := Aside0.mk ((q29_ : gb273 ≠ gb274)); have n6_ := Aside0.mk ((q30_ : gb274 ≠ gb273)); clear BK273; clear HB; have BK273 := n0_; have HB := n1_; have BK274 := n2_; have GW274 := n3_; have GE274 := n4_; have NB273_274 := n5_; have NB274_273 := n6_; clear n0_ n1_ n2_ n3_ n4_ n5_ n6_; clear hb hbox hg; have hnb11 := NB273_274.out; have hnc11 := NB274_273.out; have hcz12_0 : w10.cell? ⟨gb273, 0, none⟩ = some (.int .i64 a0_0) := (blk_cell BK273.out 0).trans rfl; have hcz12_1 : w10.cell? ⟨gb273, 1, none⟩ = some (.int .i64 a0_1) := (blk_cell BK273.out 1).trans rfl; have hcz12_2 : w10.cell? ⟨gb273, 2, none⟩ = some (.int .i64 a0_2) := (blk_cell BK273.out 2).trans rfl; have hcz12_3 : w10.cell? ⟨gb273, 3, none⟩ = some (.int .i64 a0_3) := (blk_cell BK273.out 3).trans rfl; have hfz12_0 := blk_frozen BK273.out 0; have hfz12_1 := blk_frozen BK273.out 1; have hfz12_2 := blk_frozen BK273.out 2; have hfz12_3 := blk_frozen BK273.out 3) | ((with_reducible refine gate_callee (f := 65) rfl ?_); refine goesL_ (some 6) rfl rfl Try.func65 (by kernel_rfl) rfl #[.agg #[.int .i64 a0_0, .int .i64 a0_1, .int .i64 a0_2, .int .i64 a0_3]] rfl q109_ ?_; (with_reducible refine (tilefarmref2_Valid.calls a0_0 a0_1 a0_2 a0_3 true _ A3.out).mono ?_); rintro e w13 ⟨rfl, hb⟩; refine ⟨_, rfl, ?_⟩; have n0_ := Aside0.mk (blk_below (g := gb273) (o := .cells #[.int .i64 a0_0, .int .i64 a0_1, .int .i64 a0_2, .int .i64 a0_3] 33 (0, 0)) q140_ hb); have n1_ := Aside0.mk (blk_below (g := gb274) (o := .cells #[.int .i64 a1_0, .int .i64 a1_1, .int .i64 a1_2, .int .i64 a1_3] 33 (0, 0)) q141_ hb); have n2_ := Aside0.mk (below_step q77_ hb); clear BK273; clear BK274; clear HB; have BK273 := n0_; have BK274 := n1_; have HB := n2_; clear n0_ n1_ n2_; (try clear hb); (try clear hb2); (try clear hk); (try clear hi); have hcz14_0 : w13.cell? ⟨gb274, 0, none⟩ = some (.int .i64 a1_0) := (blk_cell BK274.out 0).trans rfl; have hcz14_1 : w13.cell? ⟨gb274, 1, none⟩ = some (.int .i64 a1_1) := (blk_cell BK274.out 1).trans rfl; have hcz14_2 : w13.cell? ⟨gb274, 2, none⟩ = some (.int .i64 a1_2) := (blk_cell BK274.out 2).trans rfl; have hcz14_3 : w13.cell? ⟨gb274, 3, none⟩ = some (.int .i64 a1_3) := (blk_cell BK274.out 3).trans rfl; have hfz14_0 := blk_frozen BK274.out 0; have hfz14_1 := blk_frozen BK274.out 1; have hfz14_2 := blk_frozen BK274.out 2; have hfz14_3 := blk_frozen BK274.out 3) | (go_at_call 65; (with_reducible refine (tilefarmref2_Valid.calls a1_0 a1_1 a1_2 a1_3 true _ A5.out).mono ?_); rintro e w15 ⟨rfl, hb⟩; have n0_ := Aside0.mk (blk_below (g := gb273) (o := .cells #[.int .i64 a0_0, .int .i64 a0_1, .int .i64 a0_2, .int .i64 a0_3] 33 (0, 0)) q140_ hb); have n1_ := Aside0.mk (blk_below (g := gb274) (o := .cells #[.int .i64 a1_0, .int .i64 a1_1, .int .i64 a1_2, .int .i64 a1_3] 33 (0, 0)) q141_ hb); have n2_ := Aside0.mk (below_step q77_ hb); clear BK273; clear BK274; clear HB; have BK273 := n0_; have BK274 := n1_; have HB := n2_; clear n0_ n1_ n2_; (try clear hb); (try clear hb2); (try clear hk); (try clear hi); have hcz16_0 : w15.cell? ⟨gb273, 0, none⟩ = some (.int .i64 a0_0) := (blk_cell BK273.out 0).trans rfl; have hcz16_1 : w15.cell? ⟨gb273, 1, none⟩ = some (.int .i64 a0_1) := (blk_cell BK273.out 1).trans rfl; have hcz16_2 : w15.cell? ⟨gb273, 2, none⟩ = some (.int .i64 a0_2) := (blk_cell BK273.out 2).trans rfl; have hcz16_3 : w15.cell? ⟨gb273, 3, none⟩ = some (.int .i64 a0_3) := (blk_cell BK273.out 3).trans rfl; have hfz16_0 := blk_frozen BK273.out 0; have hfz16_1 := blk_frozen BK273.out 1; have hfz16_2 := blk_frozen BK273.out 2; have hfz16_3 := blk_frozen BK273.out 3) | ((with_reducible refine gate_callee (f := 53) rfl ?_); refine goesL_ (some 14) rfl rfl Try.func53 (by kernel_rfl) rfl #[.agg #[.int .i64 a0_0, .int .i64 a0_1, .int .i64 a0_2, .int .i64 a0_3]] rfl q109_ ?_; (with_reducible refine (tilefarmref2_Empty.calls a0_0 a0_1 a0_2 a0_3 true _ A7.out).mono ?_); rintro e w17 ⟨rfl, hb⟩; refine ⟨_, rfl, ?_⟩; have n0_ := Aside0.mk (blk_below (g := gb273) (o := .cells #[.int .i64 a0_0, .int .i64 a0_1, .int .i64 a0_2, .int .i64 a0_3] 33 (0, 0)) q140_ hb); have n1_ := Aside0.mk (blk_below (g := gb274) (o := .cells #[.int .i64 a1_0, .int .i64 a1_1, .int .i64 a1_2, .int .i64 a1_3] 33 (0, 0)) q141_ hb); have n2_ := Aside0.mk (below_step q77_ hb); clear BK273; clear BK274; clear HB; have BK273 := n0_; have BK274 := n1_; have HB := n2_; clear n0_ n1_ n2_; (try clear hb); (try clear hb2); (try clear hk); (try clear hi)))
        go_ret
        exact ⟨q165_, q77_⟩
      · replace c8 := Bool.eq_false_iff.mpr c8
        subst c8
        have H1 : (if a0_0 ≥ a1_0 then (if a0_1 ≥ a1_1 then (if a0_2 ≤ a1_2 then (some (decide (a0_3 ≤ a1_3))) else (some false)) else (some false)) else (some false)) = some r := by rw [if_neg (show ¬ (false = true) by decide)] at H; exact H
        clear H
        have H := H1
        clear H1
        by_cases c18 : a0_0 ≥ a1_0
        · rw [if_pos c18] at H
          have c18b0 : decide (a1_0 ≤ a0_0) = true := decide_eq_true c18
          clear c18
          by_cases c19 : a0_1 ≥ a1_1
          · rw [if_pos c19] at H
            have c19b0 : decide (a1_1 ≤ a0_1) = true := decide_eq_true c19
            clear c19
            by_cases c20 : a0_2 ≤ a1_2
            · rw [if_pos c20] at H
              have c20b0 : decide (a0_2 ≤ a1_2) = true := decide_eq_true c20
              clear c20
              obtain rfl := Option.some.inj H
              go_enter Try.func46, Try.ntmps46
              go_wp2_with (first | ((with_reducible refine gate_dst (N := 2) rfl ?_); refine box_event ?hg (N := 2) ?hd (cs := #[.int .i64 a0_0, .int .i64 a0_1, .int .i64 a0_2, .int .i64 a0_3]) (t := 33) ?hr ?_; (case hd => rfl); (case hg => rfl); (case hr => first | (go_simp; done) | (go_simp; rfl)); intro gb273 hg w21 hbox hb; have n0_ := Aside0.mk (below_step q114_ hb); have n1_ := Aside0.mk (hbox); have n2_ := Aside0.mk ((q89_ : w.heap.size ≤ gb273)); have n3_ := Aside0.mk ((q89_ : w.heap.size ≤ gb273)); clear HB; have HB := n0_; have BK273 := n1_; have GW273 := n2_; have GE273 := n3_; clear n0_ n1_ n2_ n3_; clear hb hbox hg) | ((with_reducible refine gate_dst (N := 3) rfl ?_); refine box_event ?hg (N := 3) ?hd (cs := #[.int .i64 a1_0, .int .i64 a1_1, .int .i64 a1_2, .int .i64 a1_3]) (t := 33) ?hr ?_; (case hd => rfl); (case hg => rfl); (case hr => first | (go_simp; done) | (go_simp; rfl)); intro gb274 hg w22 hbox hb; have n0_ := Aside0.mk (blk_below (g := gb273) (o := .cells #[.int .i64 a0_0, .int .i64 a0_1, .int .i64 a0_2, .int .i64 a0_3] 33 (0, 0)) q140_ hb); have n1_ := Aside0.mk (below_step q102_ hb); have n2_ := Aside0.mk (hbox); have n3_ := Aside0.mk ((q69_ : w.heap.size ≤ gb274)); have n4_ := Aside0.mk ((q69_ : w.heap.size ≤ gb274)); have n5_ := Aside0.mk ((q29_ : gb273 ≠ gb274)); have n6_ := Aside0.mk ((q30_ : gb274 ≠ gb273)); clear BK273; clear HB; have BK273 := n0_; have HB := n1_; have BK274 := n2_; have GW274 := n3_; have GE274 := n4_; have NB273_274 := n5_; have NB274_273 := n6_; clear n0_ n1_ n2_ n3_ n4_ n5_ n6_; clear hb hbox hg; have hnb23 := NB273_274.out; have hnc23 := NB274_273.out; have hcz24_0 : w22.cell? ⟨gb273, 0, none⟩ = some (.int .i64 a0_0) := (blk_cell BK273.out 0).trans rfl; have hcz24_1 : w22.cell? ⟨gb273, 1, none⟩ = some (.int .i64 a0_1) := (blk_cell BK273.out 1).trans rfl; have hcz24_2 : w22.cell? ⟨gb273, 2, none⟩ = some (.int .i64 a0_2) := (blk_cell BK273.out 2).trans rfl; have hcz24_3 : w22.cell? ⟨gb273, 3, none⟩ = some (.int .i64 a0_3) := (blk_cell BK273.out 3).trans rfl; have hfz24_0 := blk_frozen BK273.out 0; have hfz24_1 := blk_frozen BK273.out 1; have hfz24_2 := blk_frozen BK273.out 2; have hfz24_3 := blk_frozen BK273.out 3) | ((with_reducible refine gate_callee (f := 65) rfl ?_); refine goesL_ (some 6) rfl rfl Try.func65 (by kernel_rfl) rfl #[.agg #[.int .i64 a0_0, .int .i64 a0_1, .int .i64 a0_2, .int .i64 a0_3]] rfl q109_ ?_; (with_reducible refine (tilefarmref2_Valid.calls a0_0 a0_1 a0_2 a0_3 true _ A3.out).mono ?_); rintro e w25 ⟨rfl, hb⟩; refine ⟨_, rfl, ?_⟩; have n0_ := Aside0.mk (blk_below (g := gb273) (o := .cells #[.int .i64 a0_0, .int .i64 a0_1, .int .i64 a0_2, .int .i64 a0_3] 33 (0, 0)) q140_ hb); have n1_ := Aside0.mk (blk_below (g := gb274) (o := .cells #[.int .i64 a1_0, .int .i64 a1_1, .int .i64 a1_2, .int .i64 a1_3] 33 (0, 0)) q141_ hb); have n2_ := Aside0.mk (below_step q77_ hb); clear BK273; clear BK274; clear HB; have BK273 := n0_; have BK274 := n1_; have HB := n2_; clear n0_ n1_ n2_; (try clear hb); (try clear hb2); (try clear hk); (try clear hi); have hcz26_0 : w25.cell? ⟨gb274, 0, none⟩ = some (.int .i64 a1_0) := (blk_cell BK274.out 0).trans rfl; have hcz26_1 : w25.cell? ⟨gb274, 1, none⟩ = some (.int .i64 a1_1) := (blk_cell BK274.out 1).trans rfl; have hcz26_2 : w25.cell? ⟨gb274, 2, none⟩ = some (.int .i64 a1_2) := (blk_cell BK274.out 2).trans rfl; have hcz26_3 : w25.cell? ⟨gb274, 3, none⟩ = some (.int .i64 a1_3) := (blk_cell BK274.out 3).trans rfl; have hfz26_0 := blk_frozen BK274.out 0; have hfz26_1 := blk_frozen BK274.out 1; have hfz26_2 := blk_frozen BK274.out 2; have hfz26_3 := blk_frozen BK274.out 3) | (go_at_call 65; (with_reducible refine (tilefarmref2_Valid.calls a1_0 a1_1 a1_2 a1_3 true _ A5.out).mono ?_); rintro e w27 ⟨rfl, hb⟩; have n0_ := Aside0.mk (blk_below (g := gb273) (o := .cells #[.int .i64 a0_0, .int .i64 a0_1, .int .i64 a0_2, .int .i64 a0_3] 33 (0, 0)) q140_ hb); have n1_ := Aside0.mk (blk_below (g := gb274) (o := .cells #[.int .i64 a1_0, .int .i64 a1_1, .int .i64 a1_2, .int .i64 a1_3] 33 (0, 0)) q141_ hb); have n2_ := Aside0.mk (below_step q77_ hb); clear BK273; clear BK274; clear HB; have BK273 := n0_; have BK274 := n1_; have HB := n2_; clear n0_ n1_ n2_; (try clear hb); (try clear hb2); (try clear hk); (try clear hi); have hcz28_0 : w27.cell? ⟨gb273, 0, none⟩ = some (.int .i64 a0_0) := (blk_cell BK273.out 0).trans rfl; have hcz28_1 : w27.cell? ⟨gb273, 1, none⟩ = some (.int .i64 a0_1) := (blk_cell BK273.out 1).trans rfl; have hcz28_2 : w27.cell? ⟨gb273, 2, none⟩ = some (.int .i64 a0_2) := (blk_cell BK273.out 2).trans rfl; have hcz28_3 : w27.cell? ⟨gb273, 3, none⟩ = some (.int .i64 a0_3) := (blk_cell BK273.out 3).trans rfl; have hfz28_0 := blk_frozen BK273.out 0; have hfz28_1 := blk_frozen BK273.out 1; have hfz28_2 := blk_frozen BK273.out 2; have hfz28_3 := blk_frozen BK273.out 3) | ((with_reducible refine gate_callee (f := 53) rfl ?_); refine goesL_ (some 14) rfl rfl Try.func53 (by kernel_rfl) rfl #[.agg #[.int .i64 a0_0, .int .i64 a0_1, .int .i64 a0_2, .int .i64 a0_3]] rfl q109_ ?_; (with_reducible refine (tilefarmref2_Empty.calls a0_0 a0_1 a0_2 a0_3 false _ A7.out).mono ?_); rintro e w29 ⟨rfl, hb⟩; refine ⟨_, rfl, ?_⟩; have n0_ := Aside0.mk (blk_below (g := gb273) (o := .cells #[.int .i64 a0_0, .int .i64 a0_1, .int .i64 a0_2, .int .i64 a0_3] 33 (0, 0)) q140_ hb); have n1_ := Aside0.mk (blk_below (g := gb274) (o := .cells #[.int .i64 a1_0, .int .i64 a1_1, .int .i64 a1_2, .int .i64 a1_3] 33 (0, 0)) q141_ hb); have n2_ := Aside0.mk (below_step q77_ hb); clear BK273; clear BK274; clear HB; have BK273 := n0_; have BK274 := n1_; have HB := n2_; clear n0_ n1_ n2_; (try clear hb); (try clear hb2); (try clear hk); (try clear hi); have hcz30_0 : w29.cell? ⟨gb273, 0, none⟩ = some (.int .i64 a0_0) := (blk_cell BK273.out 0).trans rfl; have hcz30_1 : w29.cell? ⟨gb273, 1, none⟩ = some (.int .i64 a0_1) := (blk_cell BK273.out 1).trans rfl; have hcz30_2 : w29.cell? ⟨gb273, 2, none⟩ = some (.int .i64 a0_2) := (blk_cell BK273.out 2).trans rfl; have hcz30_3 : w29.cell? ⟨gb273, 3, none⟩ = some (.int .i64 a0_3) := (blk_cell BK273.out 3).trans rfl; have hfz30_0 := blk_frozen BK273.out 0; have hfz30_1 := blk_frozen BK273.out 1; have hfz30_2 := blk_frozen BK273.out 2; have hfz30_3 := blk_frozen BK273.out 3; have hcz31_0 : w29.cell? ⟨gb274, 0, none⟩ = some (.int .i64 a1_0) := (blk_cell BK274.out 0).trans rfl; have hcz31_1 : w29.cell? ⟨gb274, 1, none⟩ = some (.int .i64 a1_1) := (blk_cell BK274.out 1).trans rfl; have hcz31_2 : w29.cell? ⟨gb274, 2, none⟩ = some (.int .i64 a1_2) := (blk_cell BK274.out 2).trans rfl; have hcz31_3 : w29.cell? ⟨gb274, 3, none⟩ = some (.int .i64 a1_3) := (blk_cell BK274.out 3).trans rfl; have hfz31_0 := blk_frozen BK274.out 0; have hfz31_1 := blk_frozen BK274.out 1; have hfz31_2 := blk_frozen BK274.out 2; have hfz31_3 := blk_frozen BK274.out 3))
              go_ret
              exact ⟨q165_, q77_⟩
            · rw [if_neg c20] at H
              have c20b0 : decide (a0_2 ≤ a1_2) = false := decide_eq_false c20
              clear c20
              obtain rfl := Option.some.inj H
              go_enter Try.func46, Try.ntmps46
              go_wp2_with (first | ((with_reducible refine gate_dst (N := 2) rfl ?_); refine box_event ?hg (N := 2) ?hd (cs := #[.int .i64 a0_0, .int .i64 a0_1, .int .i64 a0_2, .int .i64 a0_3]) (t := 33) ?hr ?_; (case hd => rfl); (case hg => rfl); (case hr => first | (go_simp; done) | (go_simp; rfl)); intro gb273 hg w32 hbox hb; have n0_ := Aside0.mk (below_step q114_ hb); have n1_ := Aside0.mk (hbox); have n2_ := Aside0.mk ((q89_ : w.heap.size ≤ gb273)); have n3_ := Aside0.mk ((q89_ : w.heap.size ≤ gb273)); clear HB; have HB := n0_; have BK273 := n1_; have GW273 := n2_; have GE273 := n3_; clear n0_ n1_ n2_ n3_; clear hb hbox hg) | ((with_reducible refine gate_dst (N := 3) rfl ?_); refine box_event ?hg (N := 3) ?hd (cs := #[.int .i64 a1_0, .int .i64 a1_1, .int .i64 a1_2, .int .i64 a1_3]) (t := 33) ?hr ?_; (case hd => rfl); (case hg => rfl); (case hr => first | (go_simp; done) | (go_simp; rfl)); intro gb274 hg w33 hbox hb; have n0_ := Aside0.mk (blk_below (g := gb273) (o := .cells #[.int .i64 a0_0, .int .i64 a0_1, .int .i64 a0_2, .int .i64 a0_3] 33 (0, 0)) q140_ hb); have n1_ := Aside0.mk (below_step q102_ hb); have n2_ := Aside0.mk (hbox); have n3_ := Aside0.mk ((q69_ : w.heap.size ≤ gb274)); have n4_ := Aside0.mk ((q69_ : w.heap.size ≤ gb274)); have n5_ := Aside0.mk ((q29_ : gb273 ≠ gb274)); have n6_ := Aside0.mk ((q30_ : gb274 ≠ gb273)); clear BK273; clear HB; have BK273 := n0_; have HB := n1_; have BK274 := n2_; have GW274 := n3_; have GE274 := n4_; have NB273_274 := n5_; have NB274_273 := n6_; clear n0_ n1_ n2_ n3_ n4_ n5_ n6_; clear hb hbox hg; have hnb34 := NB273_274.out; have hnc34 := NB274_273.out; have hcz35_0 : w33.cell? ⟨gb273, 0, none⟩ = some (.int .i64 a0_0) := (blk_cell BK273.out 0).trans rfl; have hcz35_1 : w33.cell? ⟨gb273, 1, none⟩ = some (.int .i64 a0_1) := (blk_cell BK273.out 1).trans rfl; have hcz35_2 : w33.cell? ⟨gb273, 2, none⟩ = some (.int .i64 a0_2) := (blk_cell BK273.out 2).trans rfl; have hcz35_3 : w33.cell? ⟨gb273, 3, none⟩ = some (.int .i64 a0_3) := (blk_cell BK273.out 3).trans rfl; have hfz35_0 := blk_frozen BK273.out 0; have hfz35_1 := blk_frozen BK273.out 1; have hfz35_2 := blk_frozen BK273.out 2; have hfz35_3 := blk_frozen BK273.out 3) | ((with_reducible refine gate_callee (f := 65) rfl ?_); refine goesL_ (some 6) rfl rfl Try.func65 (by kernel_rfl) rfl #[.agg #[.int .i64 a0_0, .int .i64 a0_1, .int .i64 a0_2, .int .i64 a0_3]] rfl q109_ ?_; (with_reducible refine (tilefarmref2_Valid.calls a0_0 a0_1 a0_2 a0_3 true _ A3.out).mono ?_); rintro e w36 ⟨rfl, hb⟩; refine ⟨_, rfl, ?_⟩; have n0_ := Aside0.mk (blk_below (g := gb273) (o := .cells #[.int .i64 a0_0, .int .i64 a0_1, .int .i64 a0_2, .int .i64 a0_3] 33 (0, 0)) q140_ hb); have n1_ := Aside0.mk (blk_below (g := gb274) (o := .cells #[.int .i64 a1_0, .int .i64 a1_1, .int .i64 a1_2, .int .i64 a1_3] 33 (0, 0)) q141_ hb); have n2_ := Aside0.mk (below_step q77_ hb); clear BK273; clear BK274; clear HB; have BK273 := n0_; have BK274 := n1_; have HB := n2_; clear n0_ n1_ n2_; (try clear hb); (try clear hb2); (try clear hk); (try clear hi); have hcz37_0 : w36.cell? ⟨gb274, 0, none⟩ = some (.int .i64 a1_0) := (blk_cell BK274.out 0).trans rfl; have hcz37_1 : w36.cell? ⟨gb274, 1, none⟩ = some (.int .i64 a1_1) := (blk_cell BK274.out 1).trans rfl; have hcz37_2 : w36.cell? ⟨gb274, 2, none⟩ = some (.int .i64 a1_2) := (blk_cell BK274.out 2).trans rfl; have hcz37_3 : w36.cell? ⟨gb274, 3, none⟩ = some (.int .i64 a1_3) := (blk_cell BK274.out 3).trans rfl; have hfz37_0 := blk_frozen BK274.out 0; have hfz37_1 := blk_frozen BK274.out 1; have hfz37_2 := blk_frozen BK274.out 2; have hfz37_3 := blk_frozen BK274.out 3) | (go_at_call 65; (with_reducible refine (tilefarmref2_Valid.calls a1_0 a1_1 a1_2 a1_3 true _ A5.out).mono ?_); rintro e w38 ⟨rfl, hb⟩; have n0_ := Aside0.mk (blk_below (g := gb273) (o := .cells #[.int .i64 a0_0, .int .i64 a0_1, .int .i64 a0_2, .int .i64 a0_3] 33 (0, 0)) q140_ hb); have n1_ := Aside0.mk (blk_below (g := gb274) (o := .cells #[.int .i64 a1_0, .int .i64 a1_1, .int .i64 a1_2, .int .i64 a1_3] 33 (0, 0)) q141_ hb); have n2_ := Aside0.mk (below_step q77_ hb); clear BK273; clear BK274; clear HB; have BK273 := n0_; have BK274 := n1_; have HB := n2_; clear n0_ n1_ n2_; (try clear hb); (try clear hb2); (try clear hk); (try clear hi); have hcz39_0 : w38.cell? ⟨gb273, 0, none⟩ = some (.int .i64 a0_0) := (blk_cell BK273.out 0).trans rfl; have hcz39_1 : w38.cell? ⟨gb273, 1, none⟩ = some (.int .i64 a0_1) := (blk_cell BK273.out 1).trans rfl; have hcz39_2 : w38.cell? ⟨gb273, 2, none⟩ = some (.int .i64 a0_2) := (blk_cell BK273.out 2).trans rfl; have hcz39_3 : w38.cell? ⟨gb273, 3, none⟩ = some (.int .i64 a0_3) := (blk_cell BK273.out 3).trans rfl; have hfz39_0 := blk_frozen BK273.out 0; have hfz39_1 := blk_frozen BK273.out 1; have hfz39_2 := blk_frozen BK273.out 2; have hfz39_3 := blk_frozen BK273.out 3) | ((with_reducible refine gate_callee (f := 53) rfl ?_); refine goesL_ (some 14) rfl rfl Try.func53 (by kernel_rfl) rfl #[.agg #[.int .i64 a0_0, .int .i64 a0_1, .int .i64 a0_2, .int .i64 a0_3]] rfl q109_ ?_; (with_reducible refine (tilefarmref2_Empty.calls a0_0 a0_1 a0_2 a0_3 false _ A7.out).mono ?_); rintro e w40 ⟨rfl, hb⟩; refine ⟨_, rfl, ?_⟩; have n0_ := Aside0.mk (blk_below (g := gb273) (o := .cells #[.int .i64 a0_0, .int .i64 a0_1, .int .i64 a0_2, .int .i64 a0_3] 33 (0, 0)) q140_ hb); have n1_ := Aside0.mk (blk_below (g := gb274) (o := .cells #[.int .i64 a1_0, .int .i64 a1_1, .int .i64 a1_2, .int .i64 a1_3] 33 (0, 0)) q141_ hb); have n2_ := Aside0.mk (below_step q77_ hb); clear BK273; clear BK274; clear HB; have BK273 := n0_; have BK274 := n1_; have HB := n2_; clear n0_ n1_ n2_; (try clear hb); (try clear hb2); (try clear hk); (try clear hi); have hcz41_0 : w40.cell? ⟨gb273, 0, none⟩ = some (.int .i64 a0_0) := (blk_cell BK273.out 0).trans rfl; have hcz41_1 : w40.cell? ⟨gb273, 1, none⟩ = some (.int .i64 a0_1) := (blk_cell BK273.out 1).trans rfl; have hcz41_2 : w40.cell? ⟨gb273, 2, none⟩ = some (.int .i64 a0_2) := (blk_cell BK273.out 2).trans rfl; have hcz41_3 : w40.cell? ⟨gb273, 3, none⟩ = some (.int .i64 a0_3) := (blk_cell BK273.out 3).trans rfl; have hfz41_0 := blk_frozen BK273.out 0; have hfz41_1 := blk_frozen BK273.out 1; have hfz41_2 := blk_frozen BK273.out 2; have hfz41_3 := blk_frozen BK273.out 3; have hcz42_0 : w40.cell? ⟨gb274, 0, none⟩ = some (.int .i64 a1_0) := (blk_cell BK274.out 0).trans rfl; have hcz42_1 : w40.cell? ⟨gb274, 1, none⟩ = some (.int .i64 a1_1) := (blk_cell BK274.out 1).trans rfl; have hcz42_2 : w40.cell? ⟨gb274, 2, none⟩ = some (.int .i64 a1_2) := (blk_cell BK274.out 2).trans rfl; have hcz42_3 : w40.cell? ⟨gb274, 3, none⟩ = some (.int .i64 a1_3) := (blk_cell BK274.out 3).trans rfl; have hfz42_0 := blk_frozen BK274.out 0; have hfz42_1 := blk_frozen BK274.out 1; have hfz42_2 := blk_frozen BK274.out 2; have hfz42_3 := blk_frozen BK274.out 3))
              go_ret
              exact ⟨q165_, q77_⟩
          · rw [if_neg c19] at H
            have c19b0 : decide (a1_1 ≤ a0_1) = false := decide_eq_false c19
            clear c19
            obtain rfl := Option.some.inj H
            go_enter Try.func46, Try.ntmps46
            go_wp2_with (first | ((with_reducible refine gate_dst (N := 2) rfl ?_); refine box_event ?hg (N := 2) ?hd (cs := #[.int .i64 a0_0, .int .i64 a0_1, .int .i64 a0_2, .int .i64 a0_3]) (t := 33) ?hr ?_; (case hd => rfl); (case hg => rfl); (case hr => first | (go_simp; done) | (go_simp; rfl)); intro gb273 hg w43 hbox hb; have n0_ := Aside0.mk (below_step q114_ hb); have n1_ := Aside0.mk (hbox); have n2_ := Aside0.mk ((q89_ : w.heap.size ≤ gb273)); have n3_ := Aside0.mk ((q89_ : w.heap.size ≤ gb273)); clear HB; have HB := n0_; have BK273 := n1_; have GW273 := n2_; have GE273 := n3_; clear n0_ n1_ n2_ n3_; clear hb hbox hg) | ((with_reducible refine gate_dst (N := 3) rfl ?_); refine box_event ?hg (N := 3) ?hd (cs := #[.int .i64 a1_0, .int .i64 a1_1, .int .i64 a1_2, .int .i64 a1_3]) (t := 33) ?hr ?_; (case hd => rfl); (case hg => rfl); (case hr => first | (go_simp; done) | (go_simp; rfl)); intro gb274 hg w44 hbox hb; have n0_ := Aside0.mk (blk_below (g := gb273) (o := .cells #[.int .i64 a0_0, .int .i64 a0_1, .int .i64 a0_2, .int .i64 a0_3] 33 (0, 0)) q140_ hb); have n1_ := Aside0.mk (below_step q102_ hb); have n2_ := Aside0.mk (hbox); have n3_ := Aside0.mk ((q69_ : w.heap.size ≤ gb274)); have n4_ := Aside0.mk ((q69_ : w.heap.size ≤ gb274)); have n5_ := Aside0.mk ((q29_ : gb273 ≠ gb274)); have n6_ := Aside0.mk ((q30_ : gb274 ≠ gb273)); clear BK273; clear HB; have BK273 := n0_; have HB := n1_; have BK274 := n2_; have GW274 := n3_; have GE274 := n4_; have NB273_274 := n5_; have NB274_273 := n6_; clear n0_ n1_ n2_ n3_ n4_ n5_ n6_; clear hb hbox hg; have hnb45 := NB273_274.out; have hnc45 := NB274_273.out; have hcz46_0 : w44.cell? ⟨gb273, 0, none⟩ = some (.int .i64 a0_0) := (blk_cell BK273.out 0).trans rfl; have hcz46_1 : w44.cell? ⟨gb273, 1, none⟩ = some (.int .i64 a0_1) := (blk_cell BK273.out 1).trans rfl; have hcz46_2 : w44.cell? ⟨gb273, 2, none⟩ = some (.int .i64 a0_2) := (blk_cell BK273.out 2).trans rfl; have hcz46_3 : w44.cell? ⟨gb273, 3, none⟩ = some (.int .i64 a0_3) := (blk_cell BK273.out 3).trans rfl; have hfz46_0 := blk_frozen BK273.out 0; have hfz46_1 := blk_frozen BK273.out 1; have hfz46_2 := blk_frozen BK273.out 2; have hfz46_3 := blk_frozen BK273.out 3) | ((with_reducible refine gate_callee (f := 65) rfl ?_); refine goesL_ (some 6) rfl rfl Try.func65 (by kernel_rfl) rfl #[.agg #[.int .i64 a0_0, .int .i64 a0_1, .int .i64 a0_2, .int .i64 a0_3]] rfl q109_ ?_; (with_reducible refine (tilefarmref2_Valid.calls a0_0 a0_1 a0_2 a0_3 true _ A3.out).mono ?_); rintro e w47 ⟨rfl, hb⟩; refine ⟨_, rfl, ?_⟩; have n0_ := Aside0.mk (blk_below (g := gb273) (o := .cells #[.int .i64 a0_0, .int .i64 a0_1, .int .i64 a0_2, .int .i64 a0_3] 33 (0, 0)) q140_ hb); have n1_ := Aside0.mk (blk_below (g := gb274) (o := .cells #[.int .i64 a1_0, .int .i64 a1_1, .int .i64 a1_2, .int .i64 a1_3] 33 (0, 0)) q141_ hb); have n2_ := Aside0.mk (below_step q77_ hb); clear BK273; clear BK274; clear HB; have BK273 := n0_; have BK274 := n1_; have HB := n2_; clear n0_ n1_ n2_; (try clear hb); (try clear hb2); (try clear hk); (try clear hi); have hcz48_0 : w47.cell? ⟨gb274, 0, none⟩ = some (.int .i64 a1_0) := (blk_cell BK274.out 0).trans rfl; have hcz48_1 : w47.cell? ⟨gb274, 1, none⟩ = some (.int .i64 a1_1) := (blk_cell BK274.out 1).trans rfl; have hcz48_2 : w47.cell? ⟨gb274, 2, none⟩ = some (.int .i64 a1_2) := (blk_cell BK274.out 2).trans rfl; have hcz48_3 : w47.cell? ⟨gb274, 3, none⟩ = some (.int .i64 a1_3) := (blk_cell BK274.out 3).trans rfl; have hfz48_0 := blk_frozen BK274.out 0; have hfz48_1 := blk_frozen BK274.out 1; have hfz48_2 := blk_frozen BK274.out 2; have hfz48_3 := blk_frozen BK274.out 3) | (go_at_call 65; (with_reducible refine (tilefarmref2_Valid.calls a1_0 a1_1 a1_2 a1_3 true _ A5.out).mono ?_); rintro e w49 ⟨rfl, hb⟩; have n0_ := Aside0.mk (blk_below (g := gb273) (o := .cells #[.int .i64 a0_0, .int .i64 a0_1, .int .i64 a0_2, .int .i64 a0_3] 33 (0, 0)) q140_ hb); have n1_ := Aside0.mk (blk_below (g := gb274) (o := .cells #[.int .i64 a1_0, .int .i64 a1_1, .int .i64 a1_2, .int .i64 a1_3] 33 (0, 0)) q141_ hb); have n2_ := Aside0.mk (below_step q77_ hb); clear BK273; clear BK274; clear HB; have BK273 := n0_; have BK274 := n1_; have HB := n2_; clear n0_ n1_ n2_; (try clear hb); (try clear hb2); (try clear hk); (try clear hi); have hcz50_0 : w49.cell? ⟨gb273, 0, none⟩ = some (.int .i64 a0_0) := (blk_cell BK273.out 0).trans rfl; have hcz50_1 : w49.cell? ⟨gb273, 1, none⟩ = some (.int .i64 a0_1) := (blk_cell BK273.out 1).trans rfl; have hcz50_2 : w49.cell? ⟨gb273, 2, none⟩ = some (.int .i64 a0_2) := (blk_cell BK273.out 2).trans rfl; have hcz50_3 : w49.cell? ⟨gb273, 3, none⟩ = some (.int .i64 a0_3) := (blk_cell BK273.out 3).trans rfl; have hfz50_0 := blk_frozen BK273.out 0; have hfz50_1 := blk_frozen BK273.out 1; have hfz50_2 := blk_frozen BK273.out 2; have hfz50_3 := blk_frozen BK273.out 3) | ((with_reducible refine gate_callee (f := 53) rfl ?_); refine goesL_ (some 14) rfl rfl Try.func53 (by kernel_rfl) rfl #[.agg #[.int .i64 a0_0, .int .i64 a0_1, .int .i64 a0_2, .int .i64 a0_3]] rfl q109_ ?_; (with_reducible refine (tilefarmref2_Empty.calls a0_0 a0_1 a0_2 a0_3 false _ A7.out).mono ?_); rintro e w51 ⟨rfl, hb⟩; refine ⟨_, rfl, ?_⟩; have n0_ := Aside0.mk (blk_below (g := gb273) (o := .cells #[.int .i64 a0_0, .int .i64 a0_1, .int .i64 a0_2, .int .i64 a0_3] 33 (0, 0)) q140_ hb); have n1_ := Aside0.mk (blk_below (g := gb274) (o := .cells #[.int .i64 a1_0, .int .i64 a1_1, .int .i64 a1_2, .int .i64 a1_3] 33 (0, 0)) q141_ hb); have n2_ := Aside0.mk (below_step q77_ hb); clear BK273; clear BK274; clear HB; have BK273 := n0_; have BK274 := n1_; have HB := n2_; clear n0_ n1_ n2_; (try clear hb); (try clear hb2); (try clear hk); (try clear hi); have hcz52_0 : w51.cell? ⟨gb273, 0, none⟩ = some (.int .i64 a0_0) := (blk_cell BK273.out 0).trans rfl; have hcz52_1 : w51.cell? ⟨gb273, 1, none⟩ = some (.int .i64 a0_1) := (blk_cell BK273.out 1).trans rfl; have hcz52_2 : w51.cell? ⟨gb273, 2, none⟩ = some (.int .i64 a0_2) := (blk_cell BK273.out 2).trans rfl; have hcz52_3 : w51.cell? ⟨gb273, 3, none⟩ = some (.int .i64 a0_3) := (blk_cell BK273.out 3).trans rfl; have hfz52_0 := blk_frozen BK273.out 0; have hfz52_1 := blk_frozen BK273.out 1; have hfz52_2 := blk_frozen BK273.out 2; have hfz52_3 := blk_frozen BK273.out 3; have hcz53_0 : w51.cell? ⟨gb274, 0, none⟩ = some (.int .i64 a1_0) := (blk_cell BK274.out 0).trans rfl; have hcz53_1 : w51.cell? ⟨gb274, 1, none⟩ = some (.int .i64 a1_1) := (blk_cell BK274.out 1).trans rfl; have hcz53_2 : w51.cell? ⟨gb274, 2, none⟩ = some (.int .i64 a1_2) := (blk_cell BK274.out 2).trans rfl; have hcz53_3 : w51.cell? ⟨gb274, 3, none⟩ = some (.int .i64 a1_3) := (blk_cell BK274.out 3).trans rfl; have hfz53_0 := blk_frozen BK274.out 0; have hfz53_1 := blk_frozen BK274.out 1; have hfz53_2 := blk_frozen BK274.out 2; have hfz53_3 := blk_frozen BK274.out 3))
            go_ret
            exact ⟨q165_, q77_⟩
        · rw [if_neg c18] at H
          have c18b0 : decide (a1_0 ≤ a0_0) = false := decide_eq_false c18
          clear c18
          obtain rfl := Option.some.inj H
          go_enter Try.func46, Try.ntmps46
          go_wp2_with (first | ((with_reducible refine gate_dst (N := 2) rfl ?_); refine box_event ?hg (N := 2) ?hd (cs := #[.int .i64 a0_0, .int .i64 a0_1, .int .i64 a0_2, .int .i64 a0_3]) (t := 33) ?hr ?_; (case hd => rfl); (case hg => rfl); (case hr => first | (go_simp; done) | (go_simp; rfl)); intro gb273 hg w54 hbox hb; have n0_ := Aside0.mk (below_step q114_ hb); have n1_ := Aside0.mk (hbox); have n2_ := Aside0.mk ((q89_ : w.heap.size ≤ gb273)); have n3_ := Aside0.mk ((q89_ : w.heap.size ≤ gb273)); clear HB; have HB := n0_; have BK273 := n1_; have GW273 := n2_; have GE273 := n3_; clear n0_ n1_ n2_ n3_; clear hb hbox hg) | ((with_reducible refine gate_dst (N := 3) rfl ?_); refine box_event ?hg (N := 3) ?hd (cs := #[.int .i64 a1_0, .int .i64 a1_1, .int .i64 a1_2, .int .i64 a1_3]) (t := 33) ?hr ?_; (case hd => rfl); (case hg => rfl); (case hr => first | (go_simp; done) | (go_simp; rfl)); intro gb274 hg w55 hbox hb; have n0_ := Aside0.mk (blk_below (g := gb273) (o := .cells #[.int .i64 a0_0, .int .i64 a0_1, .int .i64 a0_2, .int .i64 a0_3] 33 (0, 0)) q140_ hb); have n1_ := Aside0.mk (below_step q102_ hb); have n2_ := Aside0.mk (hbox); have n3_ := Aside0.mk ((q69_ : w.heap.size ≤ gb274)); have n4_ := Aside0.mk ((q69_ : w.heap.size ≤ gb274)); have n5_ := Aside0.mk ((q29_ : gb273 ≠ gb274)); have n6_ := Aside0.mk ((q30_ : gb274 ≠ gb273)); clear BK273; clear HB; have BK273 := n0_; have HB := n1_; have BK274 := n2_; have GW274 := n3_; have GE274 := n4_; have NB273_274 := n5_; have NB274_273 := n6_; clear n0_ n1_ n2_ n3_ n4_ n5_ n6_; clear hb hbox hg; have hnb56 := NB273_274.out; have hnc56 := NB274_273.out; have hcz57_0 : w55.cell? ⟨gb273, 0, none⟩ = some (.int .i64 a0_0) := (blk_cell BK273.out 0).trans rfl; have hcz57_1 : w55.cell? ⟨gb273, 1, none⟩ = some (.int .i64 a0_1) := (blk_cell BK273.out 1).trans rfl; have hcz57_2 : w55.cell? ⟨gb273, 2, none⟩ = some (.int .i64 a0_2) := (blk_cell BK273.out 2).trans rfl; have hcz57_3 : w55.cell? ⟨gb273, 3, none⟩ = some (.int .i64 a0_3) := (blk_cell BK273.out 3).trans rfl; have hfz57_0 := blk_frozen BK273.out 0; have hfz57_1 := blk_frozen BK273.out 1; have hfz57_2 := blk_frozen BK273.out 2; have hfz57_3 := blk_frozen BK273.out 3) | ((with_reducible refine gate_callee (f := 65) rfl ?_); refine goesL_ (some 6) rfl rfl Try.func65 (by kernel_rfl) rfl #[.agg #[.int .i64 a0_0, .int .i64 a0_1, .int .i64 a0_2, .int .i64 a0_3]] rfl q109_ ?_; (with_reducible refine (tilefarmref2_Valid.calls a0_0 a0_1 a0_2 a0_3 true _ A3.out).mono ?_); rintro e w58 ⟨rfl, hb⟩; refine ⟨_, rfl, ?_⟩; have n0_ := Aside0.mk (blk_below (g := gb273) (o := .cells #[.int .i64 a0_0, .int .i64 a0_1, .int .i64 a0_2, .int .i64 a0_3] 33 (0, 0)) q140_ hb); have n1_ := Aside0.mk (blk_below (g := gb274) (o := .cells #[.int .i64 a1_0, .int .i64 a1_1, .int .i64 a1_2, .int .i64 a1_3] 33 (0, 0)) q141_ hb); have n2_ := Aside0.mk (below_step q77_ hb); clear BK273; clear BK274; clear HB; have BK273 := n0_; have BK274 := n1_; have HB := n2_; clear n0_ n1_ n2_; (try clear hb); (try clear hb2); (try clear hk); (try clear hi); have hcz59_0 : w58.cell? ⟨gb274, 0, none⟩ = some (.int .i64 a1_0) := (blk_cell BK274.out 0).trans rfl; have hcz59_1 : w58.cell? ⟨gb274, 1, none⟩ = some (.int .i64 a1_1) := (blk_cell BK274.out 1).trans rfl; have hcz59_2 : w58.cell? ⟨gb274, 2, none⟩ = some (.int .i64 a1_2) := (blk_cell BK274.out 2).trans rfl; have hcz59_3 : w58.cell? ⟨gb274, 3, none⟩ = some (.int .i64 a1_3) := (blk_cell BK274.out 3).trans rfl; have hfz59_0 := blk_frozen BK274.out 0; have hfz59_1 := blk_frozen BK274.out 1; have hfz59_2 := blk_frozen BK274.out 2; have hfz59_3 := blk_frozen BK274.out 3) | (go_at_call 65; (with_reducible refine (tilefarmref2_Valid.calls a1_0 a1_1 a1_2 a1_3 true _ A5.out).mono ?_); rintro e w60 ⟨rfl, hb⟩; have n0_ := Aside0.mk (blk_below (g := gb273) (o := .cells #[.int .i64 a0_0, .int .i64 a0_1, .int .i64 a0_2, .int .i64 a0_3] 33 (0, 0)) q140_ hb); have n1_ := Aside0.mk (blk_below (g := gb274) (o := .cells #[.int .i64 a1_0, .int .i64 a1_1, .int .i64 a1_2, .int .i64 a1_3] 33 (0, 0)) q141_ hb); have n2_ := Aside0.mk (below_step q77_ hb); clear BK273; clear BK274; clear HB; have BK273 := n0_; have BK274 := n1_; have HB := n2_; clear n0_ n1_ n2_; (try clear hb); (try clear hb2); (try clear hk); (try clear hi); have hcz61_0 : w60.cell? ⟨gb273, 0, none⟩ = some (.int .i64 a0_0) := (blk_cell BK273.out 0).trans rfl; have hcz61_1 : w60.cell? ⟨gb273, 1, none⟩ = some (.int .i64 a0_1) := (blk_cell BK273.out 1).trans rfl; have hcz61_2 : w60.cell? ⟨gb273, 2, none⟩ = some (.int .i64 a0_2) := (blk_cell BK273.out 2).trans rfl; have hcz61_3 : w60.cell? ⟨gb273, 3, none⟩ = some (.int .i64 a0_3) := (blk_cell BK273.out 3).trans rfl; have hfz61_0 := blk_frozen BK273.out 0; have hfz61_1 := blk_frozen BK273.out 1; have hfz61_2 := blk_frozen BK273.out 2; have hfz61_3 := blk_frozen BK273.out 3) | ((with_reducible refine gate_callee (f := 53) rfl ?_); refine goesL_ (some 14) rfl rfl Try.func53 (by kernel_rfl) rfl #[.agg #[.int .i64 a0_0, .int .i64 a0_1, .int .i64 a0_2, .int .i64 a0_3]] rfl q109_ ?_; (with_reducible refine (tilefarmref2_Empty.calls a0_0 a0_1 a0_2 a0_3 false _ A7.out).mono ?_); rintro e w62 ⟨rfl, hb⟩; refine ⟨_, rfl, ?_⟩; have n0_ := Aside0.mk (blk_below (g := gb273) (o := .cells #[.int .i64 a0_0, .int .i64 a0_1, .int .i64 a0_2, .int .i64 a0_3] 33 (0, 0)) q140_ hb); have n1_ := Aside0.mk (blk_below (g := gb274) (o := .cells #[.int .i64 a1_0, .int .i64 a1_1, .int .i64 a1_2, .int .i64 a1_3] 33 (0, 0)) q141_ hb); have n2_ := Aside0.mk (below_step q77_ hb); clear BK273; clear BK274; clear HB; have BK273 := n0_; have BK274 := n1_; have HB := n2_; clear n0_ n1_ n2_; (try clear hb); (try clear hb2); (try clear hk); (try clear hi); have hcz63_0 : w62.cell? ⟨gb273, 0, none⟩ = some (.int .i64 a0_0) := (blk_cell BK273.out 0).trans rfl; have hcz63_1 : w62.cell? ⟨gb273, 1, none⟩ = some (.int .i64 a0_1) := (blk_cell BK273.out 1).trans rfl; have hcz63_2 : w62.cell? ⟨gb273, 2, none⟩ = some (.int .i64 a0_2) := (blk_cell BK273.out 2).trans rfl; have hcz63_3 : w62.cell? ⟨gb273, 3, none⟩ = some (.int .i64 a0_3) := (blk_cell BK273.out 3).trans rfl; have hfz63_0 := blk_frozen BK273.out 0; have hfz63_1 := blk_frozen BK273.out 1; have hfz63_2 := blk_frozen BK273.out 2; have hfz63_3 := blk_frozen BK273.out 3; have hcz64_0 : w62.cell? ⟨gb274, 0, none⟩ = some (.int .i64 a1_0) := (blk_cell BK274.out 0).trans rfl; have hcz64_1 : w62.cell? ⟨gb274, 1, none⟩ = some (.int .i64 a1_1) := (blk_cell BK274.out 1).trans rfl; have hcz64_2 : w62.cell? ⟨gb274, 2, none⟩ = some (.int .i64 a1_2) := (blk_cell BK274.out 2).trans rfl; have hcz64_3 : w62.cell? ⟨gb274, 3, none⟩ = some (.int .i64 a1_3) := (blk_cell BK274.out 3).trans rfl; have hfz64_0 := blk_frozen BK274.out 0; have hfz64_1 := blk_frozen BK274.out 1; have hfz64_2 := blk_frozen BK274.out 2; have hfz64_3 := blk_frozen BK274.out 3))
          go_ret
          exact ⟨q165_, q77_⟩
    · replace c6 := Bool.eq_false_iff.mpr c6
      subst c6
      have H1 : (some false) = some r := by rw [if_neg (show ¬ (false = true) by decide)] at H; exact H
      clear H
      have H := H1
      clear H1
      obtain rfl := Option.some.inj H
      go_enter Try.func46, Try.ntmps46
      go_wp2_with (first | ((with_reducible refine gate_dst (N := 2) rfl ?_); refine box_event ?hg (N := 2) ?hd (cs := #[.int .i64 a0_0, .int .i64 a0_1, .int .i64 a0_2, .int .i64 a0_3]) (t := 33) ?hr ?_; (case hd => rfl); (case hg => rfl); (case hr => first | (go_simp; done) | (go_simp; rfl)); intro gb273 hg w65 hbox hb; have n0_ := Aside0.mk (below_step q114_ hb); have n1_ := Aside0.mk (hbox); have n2_ := Aside0.mk ((q89_ : w.heap.size ≤ gb273)); have n3_ := Aside0.mk ((q89_ : w.heap.size ≤ gb273)); clear HB; have HB := n0_; have BK273 := n1_; have GW273 := n2_; have GE273 := n3_; clear n0_ n1_ n2_ n3_; clear hb hbox hg) | ((with_reducible refine gate_dst (N := 3) rfl ?_); refine box_event ?hg (N := 3) ?hd (cs := #[.int .i64 a1_0, .int .i64 a1_1, .int .i64 a1_2, .int .i64 a1_3]) (t := 33) ?hr ?_; (case hd => rfl); (case hg => rfl); (case hr => first | (go_simp; done) | (go_simp; rfl)); intro gb274 hg w66 hbox hb; have n0_ := Aside0.mk (blk_below (g := gb273) (o := .cells #[.int .i64 a0_0, .int .i64 a0_1, .int .i64 a0_2, .int .i64 a0_3] 33 (0, 0)) q140_ hb); have n1_ := Aside0.mk (below_step q102_ hb); have n2_ := Aside0.mk (hbox); have n3_ := Aside0.mk ((q69_ : w.heap.size ≤ gb274)); have n4_ := Aside0.mk ((q69_ : w.heap.size ≤ gb274)); have n5_ := Aside0.mk ((q29_ : gb273 ≠ gb274)); have n6_ := Aside0.mk ((q30_ : gb274 ≠ gb273)); clear BK273; clear HB; have BK273 := n0_; have HB := n1_; have BK274 := n2_; have GW274 := n3_; have GE274 := n4_; have NB273_274 := n5_; have NB274_273 := n6_; clear n0_ n1_ n2_ n3_ n4_ n5_ n6_; clear hb hbox hg; have hnb67 := NB273_274.out; have hnc67 := NB274_273.out; have hcz68_0 : w66.cell? ⟨gb273, 0, none⟩ = some (.int .i64 a0_0) := (blk_cell BK273.out 0).trans rfl; have hcz68_1 : w66.cell? ⟨gb273, 1, none⟩ = some (.int .i64 a0_1) := (blk_cell BK273.out 1).trans rfl; have hcz68_2 : w66.cell? ⟨gb273, 2, none⟩ = some (.int .i64 a0_2) := (blk_cell BK273.out 2).trans rfl; have hcz68_3 : w66.cell? ⟨gb273, 3, none⟩ = some (.int .i64 a0_3) := (blk_cell BK273.out 3).trans rfl; have hfz68_0 := blk_frozen BK273.out 0; have hfz68_1 := blk_frozen BK273.out 1; have hfz68_2 := blk_frozen BK273.out 2; have hfz68_3 := blk_frozen BK273.out 3) | ((with_reducible refine gate_callee (f := 65) rfl ?_); refine goesL_ (some 6) rfl rfl Try.func65 (by kernel_rfl) rfl #[.agg #[.int .i64 a0_0, .int .i64 a0_1, .int .i64 a0_2, .int .i64 a0_3]] rfl q109_ ?_; (with_reducible refine (tilefarmref2_Valid.calls a0_0 a0_1 a0_2 a0_3 true _ A3.out).mono ?_); rintro e w69 ⟨rfl, hb⟩; refine ⟨_, rfl, ?_⟩; have n0_ := Aside0.mk (blk_below (g := gb273) (o := .cells #[.int .i64 a0_0, .int .i64 a0_1, .int .i64 a0_2, .int .i64 a0_3] 33 (0, 0)) q140_ hb); have n1_ := Aside0.mk (blk_below (g := gb274) (o := .cells #[.int .i64 a1_0, .int .i64 a1_1, .int .i64 a1_2, .int .i64 a1_3] 33 (0, 0)) q141_ hb); have n2_ := Aside0.mk (below_step q77_ hb); clear BK273; clear BK274; clear HB; have BK273 := n0_; have BK274 := n1_; have HB := n2_; clear n0_ n1_ n2_; (try clear hb); (try clear hb2); (try clear hk); (try clear hi); have hcz70_0 : w69.cell? ⟨gb274, 0, none⟩ = some (.int .i64 a1_0) := (blk_cell BK274.out 0).trans rfl; have hcz70_1 : w69.cell? ⟨gb274, 1, none⟩ = some (.int .i64 a1_1) := (blk_cell BK274.out 1).trans rfl; have hcz70_2 : w69.cell? ⟨gb274, 2, none⟩ = some (.int .i64 a1_2) := (blk_cell BK274.out 2).trans rfl; have hcz70_3 : w69.cell? ⟨gb274, 3, none⟩ = some (.int .i64 a1_3) := (blk_cell BK274.out 3).trans rfl; have hfz70_0 := blk_frozen BK274.out 0; have hfz70_1 := blk_frozen BK274.out 1; have hfz70_2 := blk_frozen BK274.out 2; have hfz70_3 := blk_frozen BK274.out 3) | (go_at_call 65; (with_reducible refine (tilefarmref2_Valid.calls a1_0 a1_1 a1_2 a1_3 false _ A5.out).mono ?_); rintro e w71 ⟨rfl, hb⟩; have n0_ := Aside0.mk (blk_below (g := gb273) (o := .cells #[.int .i64 a0_0, .int .i64 a0_1, .int .i64 a0_2, .int .i64 a0_3] 33 (0, 0)) q140_ hb); have n1_ := Aside0.mk (blk_below (g := gb274) (o := .cells #[.int .i64 a1_0, .int .i64 a1_1, .int .i64 a1_2, .int .i64 a1_3] 33 (0, 0)) q141_ hb); have n2_ := Aside0.mk (below_step q77_ hb); clear BK273; clear BK274; clear HB; have BK273 := n0_; have BK274 := n1_; have HB := n2_; clear n0_ n1_ n2_; (try clear hb); (try clear hb2); (try clear hk); (try clear hi)))
      go_ret
      exact ⟨q165_, q77_⟩
  · replace c4 := Bool.eq_false_iff.mpr c4
    subst c4
    have H1 : (some false) = some r := by rw [if_neg (show ¬ (false = true) by decide)] at H; exact H
    clear H
    have H := H1
    clear H1
    obtain rfl := Option.some.inj H
    go_enter Try.func46, Try.ntmps46
    go_wp2_with (first | ((with_reducible refine gate_dst (N := 2) rfl ?_); refine box_event ?hg (N := 2) ?hd (cs := #[.int .i64 a0_0, .int .i64 a0_1, .int .i64 a0_2, .int .i64 a0_3]) (t := 33) ?hr ?_; (case hd => rfl); (case hg => rfl); (case hr => first | (go_simp; done) | (go_simp; rfl)); intro gb273 hg w72 hbox hb; have n0_ := Aside0.mk (below_step q114_ hb); have n1_ := Aside0.mk (hbox); have n2_ := Aside0.mk ((q89_ : w.heap.size ≤ gb273)); have n3_ := Aside0.mk ((q89_ : w.heap.size ≤ gb273)); clear HB; have HB := n0_; have BK273 := n1_; have GW273 := n2_; have GE273 := n3_; clear n0_ n1_ n2_ n3_; clear hb hbox hg) | ((with_reducible refine gate_dst (N := 3) rfl ?_); refine box_event ?hg (N := 3) ?hd (cs := #[.int .i64 a1_0, .int .i64 a1_1, .int .i64 a1_2, .int .i64 a1_3]) (t := 33) ?hr ?_; (case hd => rfl); (case hg => rfl); (case hr => first | (go_simp; done) | (go_simp; rfl)); intro gb274 hg w73 hbox hb; have n0_ := Aside0.mk (blk_below (g := gb273) (o := .cells #[.int .i64 a0_0, .int .i64 a0_1, .int .i64 a0_2, .int .i64 a0_3] 33 (0, 0)) q140_ hb); have n1_ := Aside0.mk (below_step q102_ hb); have n2_ := Aside0.mk (hbox); have n3_ := Aside0.mk ((q69_ : w.heap.size ≤ gb274)); have n4_ := Aside0.mk ((q69_ : w.heap.size ≤ gb274)); have n5_ := Aside0.mk ((q29_ : gb273 ≠ gb274)); have n6_ := Aside0.mk ((q30_ : gb274 ≠ gb273)); clear BK273; clear HB; have BK273 := n0_; have HB := n1_; have BK274 := n2_; have GW274 := n3_; have GE274 := n4_; have NB273_274 := n5_; have NB274_273 := n6_; clear n0_ n1_ n2_ n3_ n4_ n5_ n6_; clear hb hbox hg; have hnb74 := NB273_274.out; have hnc74 := NB274_273.out; have hcz75_0 : w73.cell? ⟨gb273, 0, none⟩ = some (.int .i64 a0_0) := (blk_cell BK273.out 0).trans rfl; have hcz75_1 : w73.cell? ⟨gb273, 1, none⟩ = some (.int .i64 a0_1) := (blk_cell BK273.out 1).trans rfl; have hcz75_2 : w73.cell? ⟨gb273, 2, none⟩ = some (.int .i64 a0_2) := (blk_cell BK273.out 2).trans rfl; have hcz75_3 : w73.cell? ⟨gb273, 3, none⟩ = some (.int .i64 a0_3) := (blk_cell BK273.out 3).trans rfl; have hfz75_0 := blk_frozen BK273.out 0; have hfz75_1 := blk_frozen BK273.out 1; have hfz75_2 := blk_frozen BK273.out 2; have hfz75_3 := blk_frozen BK273.out 3) | ((with_reducible refine gate_callee (f := 65) rfl ?_); refine goesL_ (some 6) rfl rfl Try.func65 (by kernel_rfl) rfl #[.agg #[.int .i64 a0_0, .int .i64 a0_1, .int .i64 a0_2, .int .i64 a0_3]] rfl q109_ ?_; (with_reducible refine (tilefarmref2_Valid.calls a0_0 a0_1 a0_2 a0_3 false _ A3.out).mono ?_); rintro e w76 ⟨rfl, hb⟩; refine ⟨_, rfl, ?_⟩; have n0_ := Aside0.mk (blk_below (g := gb273) (o := .cells #[.int .i64 a0_0, .int .i64 a0_1, .int .i64 a0_2, .int .i64 a0_3] 33 (0, 0)) q140_ hb); have n1_ := Aside0.mk (blk_below (g := gb274) (o := .cells #[.int .i64 a1_0, .int .i64 a1_1, .int .i64 a1_2, .int .i64 a1_3] 33 (0, 0)) q141_ hb); have n2_ := Aside0.mk (below_step q77_ hb); clear BK273; clear BK274; clear HB; have BK273 := n0_; have BK274 := n1_; have HB := n2_; clear n0_ n1_ n2_; (try clear hb); (try clear hb2); (try clear hk); (try clear hi)))
    go_ret
    exact ⟨q165_, q77_⟩


def tilefarmref4_Cover.f (a0_0 : Int) (a0_1 : Int) (a0_2 : Int) (l0_3 : List Int) : Option (Int × Int × Int × Int) := some (0, 0, a0_0, a0_1)
set_option maxHeartbeats 8000000 in
set_option maxRecDepth 100000 in
theorem tilefarmref4_Cover.calls (a0_0 : Int) (a0_1 : Int) (a0_2 : Int) (A0_3 : Option Addr) (c0_3 : Nat) (l0_3 : List Int) (r1 : Int) (r2 : Int) (r3 : Int) (r4 : Int) (w : World) (hr0_3 : Kd.C (Kd.int .i64) w A0_3 l0_3.length l0_3) (hc0_3 : l0_3.length ≤ c0_3) (h : tilefarmref4_Cover.f a0_0 a0_1 a0_2 l0_3 = some (r1, r2, r3, r4)) :
    Calls Try.prog 47 #[.agg #[.int .i64 a0_0, .int .i64 a0_1, .int .i64 a0_2, .slice A0_3 l0_3.length c0_3]] w fun e w' => e = .returned (.agg #[.int .i64 r1, .int .i64 r2, .int .i64 r3, .int .i64 r4]) ∧ Below w.heap.size w w' := by
  have hu35 := Try.underlying35
  have hu33 := Try.underlying33
  have HR0_3 := Aside0.mk hr0_3
  have HC0_3 := Aside0.mk hc0_3
  clear hr0_3 hc0_3
  have HB := Aside0.mk (Below.refl w.heap.size w)
  have H : (some (0, 0, a0_0, a0_1)) = some (r1, r2, r3, r4) := h
  clear h
  simp only [Option.some.injEq, Prod.mk.injEq] at H
  obtain ⟨rfl, rfl, rfl, rfl⟩ := H
  go_enter Try.func47, Try.ntmps47
  go_wp2_with (first | ((with_reducible refine gate_dst (N := 1) rfl ?_); refine box_event ?hg (N := 1) ?hd (cs := #[.int .i64 a0_0, .int .i64 a0_1, .int .i64 a0_2, .slice A0_3 l0_3.length c0_3]) (t := 35) ?hr ?_; (case hd => rfl); (case hg => rfl); (case hr => first | (go_simp; done) | (go_simp; rfl)); intro gb278 hg w2 hbox hb; have n0_ := Aside0.mk (below_step q114_ hb); have n1_ := Aside0.mk (hbox); have n2_ := Aside0.mk ((q89_ : w.heap.size ≤ gb278)); have n3_ := Aside0.mk ((q89_ : w.heap.size ≤ gb278)); clear HB; have HB := n0_; have BK278 := n1_; have GW278 := n2_; have GE278 := n3_; clear n0_ n1_ n2_ n3_; clear hb hbox hg) | ((with_reducible refine gate_dst (N := 2) rfl ?_); refine box_event ?hg (N := 2) ?hd (cs := #[.int .i64 0, .int .i64 0, .int .i64 0, .int .i64 0]) (t := 33) ?hr ?_; (case hd => rfl); (case hg => rfl); (case hr => first | (go_simp; done) | (go_simp; rfl)); intro gb279 hg w3 hbox hb; have n0_ := Aside0.mk (blk_below (g := gb278) (o := .cells #[.int .i64 a0_0, .int .i64 a0_1, .int .i64 a0_2, .slice A0_3 l0_3.length c0_3] 35 (0, 0)) q142_ hb); have n1_ := Aside0.mk (below_step q103_ hb); have n2_ := Aside0.mk (hbox); have n3_ := Aside0.mk ((by rw [hg]; exact (below_size q103_) : w.heap.size ≤ gb279)); have n4_ := Aside0.mk ((by rw [hg]; exact (below_size q103_) : w.heap.size ≤ gb279)); have n5_ := Aside0.mk ((by rw [hg]; exact Nat.ne_of_lt (blk_lt (g := gb278) (o := .cells #[.int .i64 a0_0, .int .i64 a0_1, .int .i64 a0_2, .slice A0_3 l0_3.length c0_3] 35 (0, 0)) q142_) : gb278 ≠ gb279)); have n6_ := Aside0.mk ((by rw [hg]; exact Nat.ne_of_gt (blk_lt (g := gb278) (o := .cells #[.int .i64 a0_0, .int .i64 a0_1, .int .i64 a0_2, .slice A0_3 l0_3.length c0_3] 35 (0, 0)) q142_) : gb279 ≠ gb278)); clear BK278; clear HB; have BK278 := n0_; have HB := n1_; have BK279 := n2_; have GW279 := n3_; have GE279 := n4_; have NB278_279 := n5_; have NB279_278 := n6_; clear n0_ n1_ n2_ n3_ n4_ n5_ n6_; clear hb hbox hg; have hnb4 := NB278_279.out; have hnc4 := NB279_278.out; have hcz5_0 : w3.cell? ⟨gb278, 0, none⟩ = some (.int .i64 a0_0) := (blk_cell BK278.out 0).trans rfl; have hcz5_1 : w3.cell? ⟨gb278, 1, none⟩ = some (.int .i64 a0_1) := (blk_cell BK278.out 1).trans rfl; have hcz5_2 : w3.cell? ⟨gb278, 2, none⟩ = some (.int .i64 a0_2) := (blk_cell BK278.out 2).trans rfl; have hcz5_3 : w3.cell? ⟨gb278, 3, none⟩ = some (.slice A0_3 l0_3.length c0_3) := (blk_cell BK278.out 3).trans rfl; have hfz5_0 := blk_frozen BK278.out 0; have hfz5_1 := blk_frozen BK278.out 1; have hfz5_2 := blk_frozen BK278.out 2; have hfz5_3 := blk_frozen BK278.out 3; have hcz6_0 : w3.cell? ⟨gb279, 0, none⟩ = some (.int .i64 0) := (blk_cell BK279.out 0).trans rfl; have hcz6_1 : w3.cell? ⟨gb279, 1, none⟩ = some (.int .i64 0) := (blk_cell BK279.out 1).trans rfl; have hcz6_2 : w3.cell? ⟨gb279, 2, none⟩ = some (.int .i64 0) := (blk_cell BK279.out 2).trans rfl; have hcz6_3 : w3.cell? ⟨gb279, 3, none⟩ = some (.int .i64 0) := (blk_cell BK279.out 3).trans rfl; have hfz6_0 := blk_frozen BK279.out 0; have hfz6_1 := blk_frozen BK279.out 1; have hfz6_2 := blk_frozen BK279.out 2; have hfz6_3 := blk_frozen BK279.out 3))
  refine bodyPost_ret (results_cell_row rfl _ _ gb279 33 #[.int .i64 0, .int .i64 0, .int .i64 a0_0, .int .i64 a0_1] (0, 0) _ rfl (by (with_reducible repeat (first | refine blk_drewN ?_ _ | refine blk_drew ?_ | refine blk_alloc ?_ _)); refine blk_put (cs := #[.int .i64 0, .int .i64 0, .int .i64 a0_0, .int .i64 0]) ?_ 3 _ rfl; (with_reducible repeat (first | refine blk_drewN ?_ _ | refine blk_drew ?_ | refine blk_alloc ?_ _)); refine blk_put (cs := #[.int .i64 0, .int .i64 0, .int .i64 0, .int .i64 0]) ?_ 2 _ rfl; (with_reducible repeat (first | refine blk_drewN ?_ _ | refine blk_drew ?_ | refine blk_alloc ?_ _)); refine blk_put (cs := #[.int .i64 0, .int .i64 0, .int .i64 0, .int .i64 0]) ?_ 1 _ rfl; (with_reducible repeat (first | refine blk_drewN ?_ _ | refine blk_drew ?_ | refine blk_alloc ?_ _)); refine blk_put (cs := #[.int .i64 0, .int .i64 0, .int .i64 0, .int .i64 0]) ?_ 0 _ rfl; (with_reducible repeat (first | refine blk_drewN ?_ _ | refine blk_drew ?_ | refine blk_alloc ?_ _)); exact BK279.out) Try.underlying33 rfl (by kernel_rfl)) rfl ?_
  exact ⟨q165_, by repeat (first | (with_reducible first | exact HB.out | apply below_alloc | apply pw_below_drewN | apply below_drew1 | refine below_set ?_ GE278.out | refine below_set ?_ GE279.out) | exact HB.out)⟩


def tilefarmref4_New.f (a0 : Int) (a1 : Int) (a2 : Int) : Option (Int × Int × Int × List Int × Bool) := (tilefarmref4_Size.f a0 a1 a2).bind fun t281 => (if t281 = true then (if 0 ≤ (wrap64 (a0 * a1)) then (if (wrap64 (a0 * a1) : Int).toNat ≤ 35184372088832 then (some (a0, a1, a2, (List.replicate (wrap64 (a0 * a1) : Int).toNat 0), true)) else (none)) else (none)) else (some (0, 0, 0, ([] : List Int), false)))
set_option maxHeartbeats 8000000 in
set_option maxRecDepth 100000 in
theorem tilefarmref4_New.calls (a0 : Int) (a1 : Int) (a2 : Int) (r1 : Int) (r2 : Int) (r3 : Int) (r4 : List Int) (r5 : Bool) (w : World) (h : tilefarmref4_New.f a0 a1 a2 = some (r1, r2, r3, r4, r5)) :
    Calls Try.prog 48 #[.int .i64 a0, .int .i64 a1, .int .i64 a2] w fun e w' => ∃ v3_ : Value, e = .returned (.tuple #[.agg #[.int .i64 r1, .int .i64 r2, .int .i64 r3, v3_], .bool r5]) ∧ Kd.R (Kd.int .i64) 3 w' w.heap.size (fun _ => True) v3_ r4 ∧ Below w.heap.size w w' := by
  have hu35 := Try.underlying35
  have HB := Aside0.mk (Below.refl w.heap.size w)
  have H : ((tilefarmref4_Size.f a0 a1 a2).bind fun t281 => (if t281 = true then (if 0 ≤ (wrap64 (a0 * a1)) then (if (wrap64 (a0 * a1) : Int).toNat ≤ 35184372088832 then (some (a0, a1, a2, (List.replicate (wrap64 (a0 * a1) : Int).toNat 0), true)) else (none)) else (none)) else (some (0, 0, 0, ([] : List Int), false)))) = some (r1, r2, r3, r4, r5) := h
  clear h
  replace H := Option.bind_eq_some_iff.mp H
  obtain ⟨t281, A40, H⟩ := H
  replace H : (if t281 = true then (if 0 ≤ (wrap64 (a0 * a1)) then (if (wrap64 (a0 * a1) : Int).toNat ≤ 35184372088832 then (some (a0, a1, a2, (List.replicate (wrap64 (a0 * a1) : Int).toNat 0), true)) else (none)) else (none)) else (some (0, 0, 0, ([] : List Int), false))) = some (r1, r2, r3, r4, r5) := H
  have A4 := Aside0.mk A40
  clear A40
  by_cases c5 : t281 = true
  · subst c5
    have H1 : (if 0 ≤ (wrap64 (a0 * a1)) then (if (wrap64 (a0 * a1) : Int).toNat ≤ 35184372088832 then (some (a0, a1, a2, (List.replicate (wrap64 (a0 * a1) : Int).toNat 0), true)) else (none)) else (none)) = some (r1, r2, r3, r4, r5) := by rw [if_pos rfl] at H; exact H
    clear H
    have H := H1
    clear H1
    obtain ⟨ji6, hji6⟩ : ∃ j_ : Int, (wrap64 (a0 * a1)) = j_ := ⟨_, rfl⟩
    replace H : (if 0 ≤ (ji6) then (if (ji6 : Int).toNat ≤ 35184372088832 then (some (a0, a1, a2, (List.replicate (ji6 : Int).toNat 0), true)) else (none)) else (none)) = some (r1, r2, r3, r4, r5) := by first | (rw [hji6] at H; exact H) | (simp only [hji6] at H ⊢; exact H)
    (try rw [hji6] at A4)
    have hji6w : (IntKind.i64.wrap (a0 * a1)) = ji6 := (i64_w _).trans hji6
    by_cases c7 : 0 ≤ (ji6)
    · rw [if_pos c7] at H
      have c7b0 := eq_true c7
      have c7b1 : decide (0 ≤ (ji6)) = true := decide_eq_true c7
      clear c7
      by_cases c8 : (ji6 : Int).toNat ≤ 35184372088832
      · rw [if_pos c8] at H
        have c8b0 := eq_true c8
        have c8b1 : decide ((ji6 : Int).toNat ≤ 35184372088832) = true := decide_eq_true c8
        clear c8
        obtain ⟨y282, hy282⟩ : ∃ y_ : List Int, y_ = (List.replicate (ji6 : Int).toNat 0) := ⟨_, rfl⟩
        replace H : (some (a0, a1, a2, y282, true)) = some (r1, r2, r3, r4, r5) := by first | (rw [hy282]; with_reducible exact H) | (have H2_ := (Option.bind_some _ _).symm.trans H; rw [hy282]; with_reducible exact H2_) | (have H2_ := (Option.bind_some _ _).symm.trans H; with_reducible exact H2_) | with_reducible exact H | (rw [hy282]; exact H) | exact H
        have Ny282 := Aside0.mk hy282
        clear hy282
        simp only [Option.some.injEq, Prod.mk.injEq] at H
        obtain ⟨rfl, rfl, rfl, rfl, rfl⟩ := H
        go_enter Try.func48, Try.ntmps48
        go_wp2_with (first | ((with_reducible refine gate_dst (N := 6) rfl ?_); refine box_event ?hg (N := 6) ?hd (cs := #[.int .i64 0, .int .i64 0, .int .i64 0, .slice none 0 0]) (t := 35) ?hr ?_; (case hd => rfl); (case hg => rfl); (case hr => first | (go_simp; done) | (go_simp; rfl)); intro gb280 hg w9 hbox hb; have n0_ := Aside0.mk (below_step q114_ hb); have n1_ := Aside0.mk (hbox); have n2_ := Aside0.mk ((q89_ : w.heap.size ≤ gb280)); have n3_ := Aside0.mk ((q89_ : w.heap.size ≤ gb280)); clear HB; have HB := n0_; have BK280 := n1_; have GW280 := n2_; have GE280 := n3_; clear n0_ n1_ n2_ n3_; clear hb hbox hg) | ((with_reducible refine gate_callee (f := 64) rfl ?_); refine goesL_ (some 11) rfl rfl Try.func64 (by kernel_rfl) rfl #[.int .i64 a0, .int .i64 a1, .int .i64 a2] rfl q109_ ?_; (with_reducible refine (tilefarmref4_Size.calls a0 a1 a2 true _ A4.out).mono ?_); rintro e w' ⟨rfl, ⟨nd, rfl⟩⟩; refine ⟨_, rfl, ?_⟩; (try (rw [drewN_self w9]; generalize hq_ : World.drewN w9 _ = w9; have n0_ : Aside0 (w9.heap[gb280]? = some (.cells #[.int .i64 0, .int .i64 0, .int .i64 0, .slice none 0 0] 35 (0, 0))) := ⟨by rw [← hq_]; exact q143_⟩; have n1_ : Aside0 (Below w.heap.size w w9) := ⟨by rw [← hq_]; exact q104_⟩; clear BK280 HB hq_; have BK280 := n0_; have HB := n1_; clear n0_ n1_))) | ((with_reducible refine gate_dst (N := 20) rfl ?_); refine Kd.R_make (Kd.int .i64) _ 3 rfl (N := 20) rfl 22 _ _ rfl ji6 rfl rfl Try.underlying22 (.int .i64 0) 8 info3 rfl (by decide) (by omega) 0 (ok := fun _ => True) (okp := fun _ => True) rfl (fun _ hk => hk) trivial (of_decide_eq_true q170_) (Nat.le_trans (Nat.mul_le_mul_right _ (of_decide_eq_true q170_ : ji6.toNat ≤ 35184372088832)) (by omega)) (Below.refl _ _) (Nat.le_refl _) ?_; intro v283 w10 ho11 hb hg_ hnew_; clear hg_ hnew_; (first | rw [← Ny282.out] at ho11 | (simp only [Int.reduceToNat] at ho11; rw [← Ny282.out] at ho11)); have n0_ := Aside0.mk (Kd.R_lower ho11 (below_size q104_)); have n1_ := Aside0.mk (blk_below (g := gb280) (o := .cells #[.int .i64 0, .int .i64 0, .int .i64 0, .slice none 0 0] 35 (0, 0)) q143_ hb); have n2_ := Aside0.mk (below_step q104_ hb); clear BK280; clear HB; have HO284 := n0_; have BK280 := n1_; have HB := n2_; clear n0_ n1_ n2_; clear hb ho11; obtain ⟨Ao12, co12, eo12⟩ := Kd.R_slice HO284.out; subst eo12; have hcz13_0 : w10.cell? ⟨gb280, 0, none⟩ = some (.int .i64 0) := (blk_cell BK280.out 0).trans rfl; have hcz13_1 : w10.cell? ⟨gb280, 1, none⟩ = some (.int .i64 0) := (blk_cell BK280.out 1).trans rfl; have hcz13_2 : w10.cell? ⟨gb280, 2, none⟩ = some (.int .i64 0) := (blk_cell BK280.out 2).trans rfl; have hcz13_3 : w10.cell? ⟨gb280, 3, none⟩ = some (.slice none 0 0) := (blk_cell BK280.out 3).trans rfl; have hfz13_0 := blk_frozen BK280.out 0; have hfz13_1 := blk_frozen BK280.out 1; have hfz13_2 := blk_frozen BK280.out 2; have hfz13_3 := blk_frozen BK280.out 3))
        refine bodyPost_ret (results_ct rfl _ _ gb280 35 #[.int .i64 a0, .int .i64 a1, .int .i64 a2, .slice Ao12 y282.length co12] (0, 0) _ rfl (by (with_reducible repeat (first | refine blk_drewN ?_ _ | refine blk_drew ?_ | refine blk_alloc ?_ _)); refine blk_put (cs := #[.int .i64 a0, .int .i64 a1, .int .i64 a2, .slice none 0 0]) ?_ 3 _ rfl; (with_reducible repeat (first | refine blk_drewN ?_ _ | refine blk_drew ?_ | refine blk_alloc ?_ _)); refine blk_put (cs := #[.int .i64 a0, .int .i64 a1, .int .i64 0, .slice none 0 0]) ?_ 2 _ rfl; (with_reducible repeat (first | refine blk_drewN ?_ _ | refine blk_drew ?_ | refine blk_alloc ?_ _)); refine blk_put (cs := #[.int .i64 a0, .int .i64 0, .int .i64 0, .slice none 0 0]) ?_ 1 _ rfl; (with_reducible repeat (first | refine blk_drewN ?_ _ | refine blk_drew ?_ | refine blk_alloc ?_ _)); refine blk_put (cs := #[.int .i64 0, .int .i64 0, .int .i64 0, .slice none 0 0]) ?_ 0 _ rfl; (with_reducible repeat (first | refine blk_drewN ?_ _ | refine blk_drew ?_ | refine blk_alloc ?_ _)); exact BK280.out) Try.underlying35 rfl (by kernel_rfl)) rfl ?_
        exact ⟨_, by first | rfl | (simp [errW_none, errW_some] <;> rfl) | (simp only [← hji6]; first | rfl | (simp [errW_none, errW_some] <;> rfl)) | (simp [*, errW_none, errW_some] <;> rfl), by (with_reducible repeat (first | apply Kd.R_alloc | apply Kd.R_drewN | apply Kd.R_drew)); exact Kd.R_mono (Kd.R_far (p := ⟨gb280, 3, none⟩) (Kd.R_far (p := ⟨gb280, 2, none⟩) (Kd.R_far (p := ⟨gb280, 1, none⟩) (Kd.R_far (p := ⟨gb280, 0, none⟩) (Kd.R_types HO284.out BK280.out (by decide)) (fun _ hk => hk.2) (.int .i64 a0)) (fun _ hk => hk.2) (.int .i64 a1)) (fun _ hk => hk.2) (.int .i64 a2)) (fun _ hk => hk.2) (.slice Ao12 y282.length co12)) (fun _ hk => trivial), q104_⟩
      · rw [if_neg c8] at H
        exact absurd H (by simp)
    · rw [if_neg c7] at H
      exact absurd H (by simp)
  · replace c5 := Bool.eq_false_iff.mpr c5
    subst c5
    have H1 : (some (0, 0, 0, ([] : List Int), false)) = some (r1, r2, r3, r4, r5) := by rw [if_neg (show ¬ (false = true) by decide)] at H; exact H
    clear H
    have H := H1
    clear H1
    simp only [Option.some.injEq, Prod.mk.injEq] at H
    obtain ⟨rfl, rfl, rfl, rfl, rfl⟩ := H
    go_enter Try.func48, Try.ntmps48
    go_wp2_with (first | ((with_reducible refine gate_dst (N := 6) rfl ?_); refine box_event ?hg (N := 6) ?hd (cs := #[.int .i64 0, .int .i64 0, .int .i64 0, .slice none 0 0]) (t := 35) ?hr ?_; (case hd => rfl); (case hg => rfl); (case hr => first | (go_simp; done) | (go_simp; rfl)); intro gb280 hg w14 hbox hb; have n0_ := Aside0.mk (below_step q114_ hb); have n1_ := Aside0.mk (hbox); have n2_ := Aside0.mk ((q89_ : w.heap.size ≤ gb280)); have n3_ := Aside0.mk ((q89_ : w.heap.size ≤ gb280)); clear HB; have HB := n0_; have BK280 := n1_; have GW280 := n2_; have GE280 := n3_; clear n0_ n1_ n2_ n3_; clear hb hbox hg) | ((with_reducible refine gate_callee (f := 64) rfl ?_); refine goesL_ (some 11) rfl rfl Try.func64 (by kernel_rfl) rfl #[.int .i64 a0, .int .i64 a1, .int .i64 a2] rfl q109_ ?_; (with_reducible refine (tilefarmref4_Size.calls a0 a1 a2 false _ A4.out).mono ?_); rintro e w' ⟨rfl, ⟨nd, rfl⟩⟩; refine ⟨_, rfl, ?_⟩; (try (rw [drewN_self w14]; generalize hq_ : World.drewN w14 _ = w14; have n0_ : Aside0 (w14.heap[gb280]? = some (.cells #[.int .i64 0, .int .i64 0, .int .i64 0, .slice none 0 0] 35 (0, 0))) := ⟨by rw [← hq_]; exact q143_⟩; have n1_ : Aside0 (Below w.heap.size w w14) := ⟨by rw [← hq_]; exact q104_⟩; clear BK280 HB hq_; have BK280 := n0_; have HB := n1_; clear n0_ n1_)); have hcz15_0 : w14.cell? ⟨gb280, 0, none⟩ = some (.int .i64 0) := (blk_cell BK280.out 0).trans rfl; have hcz15_1 : w14.cell? ⟨gb280, 1, none⟩ = some (.int .i64 0) := (blk_cell BK280.out 1).trans rfl; have hcz15_2 : w14.cell? ⟨gb280, 2, none⟩ = some (.int .i64 0) := (blk_cell BK280.out 2).trans rfl; have hcz15_3 : w14.cell? ⟨gb280, 3, none⟩ = some (.slice none 0 0) := (blk_cell BK280.out 3).trans rfl; have hfz15_0 := blk_frozen BK280.out 0; have hfz15_1 := blk_frozen BK280.out 1; have hfz15_2 := blk_frozen BK280.out 2; have hfz15_3 := blk_frozen BK280.out 3))
    refine bodyPost_ret (results_ct rfl _ _ gb280 35 #[.int .i64 0, .int .i64 0, .int .i64 0, .slice none 0 0] (0, 0) _ rfl (by (with_reducible repeat (first | refine blk_drewN ?_ _ | refine blk_drew ?_ | refine blk_alloc ?_ _)); refine blk_put (cs := #[.int .i64 0, .int .i64 0, .int .i64 0, .slice none 0 0]) ?_ 3 _ rfl; (with_reducible repeat (first | refine blk_drewN ?_ _ | refine blk_drew ?_ | refine blk_alloc ?_ _)); refine blk_put (cs := #[.int .i64 0, .int .i64 0, .int .i64 0, .slice none 0 0]) ?_ 2 _ rfl; (with_reducible repeat (first | refine blk_drewN ?_ _ | refine blk_drew ?_ | refine blk_alloc ?_ _)); refine blk_put (cs := #[.int .i64 0, .int .i64 0, .int .i64 0, .slice none 0 0]) ?_ 1 _ rfl; (with_reducible repeat (first | refine blk_drewN ?_ _ | refine blk_drew ?_ | refine blk_alloc ?_ _)); refine blk_put (cs := #[.int .i64 0, .int .i64 0, .int .i64 0, .slice none 0 0]) ?_ 0 _ rfl; (with_reducible repeat (first | refine blk_drewN ?_ _ | refine blk_drew ?_ | refine blk_alloc ?_ _)); exact BK280.out) Try.underlying35 rfl (by kernel_rfl)) rfl ?_
    exact ⟨_, q165_, q108_, q104_⟩

end Go.Proofs.Ythgmndomnibefaa.PConvolveCrops
