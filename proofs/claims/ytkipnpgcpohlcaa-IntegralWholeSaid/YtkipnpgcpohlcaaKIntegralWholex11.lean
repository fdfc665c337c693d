-- Written by a program of the session (wip/tools/pack.py): the printed texts, pruned; checked by Lean.
import Derived.Test.YtkipnpgcpohlcaaKIntegralWholea
import Derived.Test.YtkipnpgcpohlcaaKIntegralWholex0
import Derived.Test.YtkipnpgcpohlcaaKIntegralWholex10
namespace Go.Proofs.Ytkipnpgcpohlcaa.PIntegralWhole
open Go.RowKit Go.Proofs.YtkipnpgcpohlcaaW.PrintWords Go.Proofs.YtkipnpgcpohlcaaW.PrintLast Go.Proofs.YtkipnpgcpohlcaaW.PrintMore
attribute [local go_sem] max2_int min2_int max_two min_two max_three min_three max_four min_four   -- for this text's walks alone
set_option linter.unusedVariables false
set_option linter.unusedSimpArgs false
mutual
def tilefarmref4_Valid.j0 : Nat → Bool → Int → Int → Int → List Int → Option (Bool)
 | 0, _, _, _, _, _ => none
 | k + 1, x22, x326000, x326001, x326002, x326003 => if x22 = true then (some false) else (tilefarmref4_Valid.l0 k 0 x326000 x326001 x326002 x326003)
def tilefarmref4_Valid.l0 : Nat → Int → Int → Int → Int → List Int → Option (Bool)
 | 0, _, _, _, _, _ => none
 | k + 1, x3, x326000, x326001, x326002, x326003 => if x3 < (x326003.length : Int) then (if 0 ≤ x3 then (if (rd x326003 x3) < 0 then (some false) else (if (rd x326003 x3) > x326002 then (some false) else (tilefarmref4_Valid.l0 k (wrap64 (x3 + 1)) x326000 x326001 x326002 x326003))) else (none)) else (some true)
end
def tilefarmref4_Valid.f (k : Nat) (a0_0 : Int) (a0_1 : Int) (a0_2 : Int) (l0_3 : List Int) : Option (Bool) := (tilefarmref4_Size.f a0_0 a0_1 a0_2).bind fun t326 => (if t326 = true then (tilefarmref4_Valid.j0 k ((l0_3.length : Int) != (wrap64 (a0_0 * a0_1))) a0_0 a0_1 a0_2 l0_3) else (tilefarmref4_Valid.j0 k true a0_0 a0_1 a0_2 l0_3))
theorem tilefarmref4_Valid.mono_l : ∀ k, (∀ y0 y1 y2 y3 y4, LeO (tilefarmref4_Valid.j0 k y0 y1 y2 y3 y4) (tilefarmref4_Valid.j0 (k + 1) y0 y1 y2 y3 y4)) ∧ (∀ y0 y1 y2 y3 y4, LeO (tilefarmref4_Valid.l0 k y0 y1 y2 y3 y4) (tilefarmref4_Valid.l0 (k + 1) y0 y1 y2 y3 y4))
 | 0 => ⟨fun _ _ _ _ _ r h => by simp [tilefarmref4_Valid.j0] at h, fun _ _ _ _ _ r h => by simp [tilefarmref4_Valid.l0] at h⟩
 | k + 1 => by
  obtain ⟨ih0, ih1⟩ := tilefarmref4_Valid.mono_l k; refine ⟨?_, ?_⟩
  ·intro y0 y1 y2 y3 y4
   unfold tilefarmref4_Valid.j0
   repeat' first
   | (with_reducible exact ih0 _ _ _ _ _)
   | (with_reducible exact ih1 _ _ _ _ _)
   | (with_reducible exact LeO.refl _)
   | (with_reducible exact LeO.none _)
   | (with_reducible refine LeO.ite ?_ ?_)
   | (with_reducible refine LeO.bind ?_ (fun _ => ?_))
   | exact ih0 _ _ _ _ _
   | exact ih1 _ _ _ _ _
   | exact LeO.none _
   | refine LeO.ite ?_ ?_
   | refine LeO.bind ?_ (fun _ => ?_)
  ·intro y0 y1 y2 y3 y4
   unfold tilefarmref4_Valid.l0
   repeat' first
   | (with_reducible exact ih0 _ _ _ _ _)
   | (with_reducible exact ih1 _ _ _ _ _)
   | (with_reducible exact LeO.refl _)
   | (with_reducible exact LeO.none _)
   | (with_reducible refine LeO.ite ?_ ?_)
   | (with_reducible refine LeO.bind ?_ (fun _ => ?_))
   | exact ih0 _ _ _ _ _
   | exact ih1 _ _ _ _ _
   | exact LeO.none _
   | refine LeO.ite ?_ ?_
   | refine LeO.bind ?_ (fun _ => ?_)
theorem tilefarmref4_Valid.mono : ∀ a0 a1 a2 a3 k, LeO (tilefarmref4_Valid.f k a0 a1 a2 a3) (tilefarmref4_Valid.f (k + 1) a0 a1 a2 a3) := by
 intro a0 a1 a2 a3 k; obtain ⟨ih0, ih1⟩ := tilefarmref4_Valid.mono_l k; unfold tilefarmref4_Valid.f
 repeat' first
   | (with_reducible exact ih0 _ _ _ _ _)
   | (with_reducible exact ih1 _ _ _ _ _)
   | (with_reducible exact LeO.refl _)
   | (with_reducible exact LeO.none _)
   | (with_reducible refine LeO.ite ?_ ?_)
   | (with_reducible refine LeO.bind ?_ (fun _ => ?_))
   | exact ih0 _ _ _ _ _
   | exact ih1 _ _ _ _ _
   | exact LeO.none _
   | refine LeO.ite ?_ ?_
   | refine LeO.bind ?_ (fun _ => ?_)
set_option maxHeartbeats 8000000 in
set_option maxRecDepth 100000 in
theorem tilefarmref4_Valid.calls (k : Nat) (a0_0 : Int) (a0_1 : Int) (a0_2 : Int) (A0_3 : Option Addr) (c0_3 : Nat) (l0_3 : List Int) (r : Bool) (w : World) (hr0_3 : Kd.C (Kd.int .i64) w A0_3 l0_3.length l0_3) (hc0_3 : l0_3.length ≤ c0_3) (h : tilefarmref4_Valid.f k a0_0 a0_1 a0_2 l0_3 = some r) :
  Calls Try.prog 39 #[.agg #[.int .i64 a0_0, .int .i64 a0_1, .int .i64 a0_2, .slice A0_3 l0_3.length c0_3]] w fun e w' => e = .returned (.bool r) ∧ Below w.heap.size w w' := by
 have hu26 := Try.underlying26; have HR0_3 := am_ hr0_3; have HC0_3 := am_ hc0_3; clear hr0_3 hc0_3; have HB := am_ (Below.refl w.heap.size w); have H : ((tilefarmref4_Size.f a0_0 a0_1 a0_2).bind fun t326 => (if t326 = true then (tilefarmref4_Valid.j0 k ((l0_3.length : Int) != (wrap64 (a0_0 * a0_1))) a0_0 a0_1 a0_2 l0_3) else (tilefarmref4_Valid.j0 k true a0_0 a0_1 a0_2 l0_3))) = some r := h; clear h; have HC2 := am_ H; clear H
 go_enter Try.func39, Try.ntmps39
 go_upto_region 1 with (first | ((with_reducible refine gate_dst (N := 1) rfl ?_); (try (refine gate_guard (by rfl) ?_; dsimp only)); refine box_event ?hg (N := 1) ?hd (cs := #[.int .i64 a0_0, .int .i64 a0_1, .int .i64 a0_2, .slice A0_3 l0_3.length c0_3]) (t := 26) ?hr ?_; (case hd => rfl); (case hg => rfl); (case hr => first | (go_simp; done) | (go_simp; rfl)); intro gb325 hg w3 hbox hb; have n0_ := am_ (below_step q143_ hb); have n1_ := am_ (hbox); have n2_ := am_ ((q108_ : w.heap.size ≤ gb325)); have n3_ := am_ ((q108_ : w.heap.size ≤ gb325)); clear HB; have HB := n0_; have BK325 := n1_; have GW325 := n2_; have GE325 := n3_; clear n0_ n1_ n2_ n3_; clear hb hbox hg))
 repeat (go_quiet (first | ((with_reducible refine gate_dst (N := 1) rfl ?_); (try (refine gate_guard (by rfl) ?_; dsimp only)); refine box_event ?hg (N := 1) ?hd (cs := #[.int .i64 a0_0, .int .i64 a0_1, .int .i64 a0_2, .slice A0_3 l0_3.length c0_3]) (t := 26) ?hr ?_; (case hd => rfl); (case hg => rfl); (case hr => first | (go_simp; done) | (go_simp; rfl)); intro gb325 hg w3 hbox hb; have n0_ := am_ (below_step q143_ hb); have n1_ := am_ (hbox); have n2_ := am_ ((q108_ : w.heap.size ≤ gb325)); have n3_ := am_ ((q108_ : w.heap.size ≤ gb325)); clear HB; have HB := n0_; have BK325 := n1_; have GW325 := n2_; have GE325 := n3_; clear n0_ n1_ n2_ n3_; clear hb hbox hg)); go_upto_region 1 with (first | ((with_reducible refine gate_dst (N := 1) rfl ?_); (try (refine gate_guard (by rfl) ?_; dsimp only)); refine box_event ?hg (N := 1) ?hd (cs := #[.int .i64 a0_0, .int .i64 a0_1, .int .i64 a0_2, .slice A0_3 l0_3.length c0_3]) (t := 26) ?hr ?_; (case hd => rfl); (case hg => rfl); (case hr => first | (go_simp; done) | (go_simp; rfl)); intro gb325 hg w3 hbox hb; have n0_ := am_ (below_step q143_ hb); have n1_ := am_ (hbox); have n2_ := am_ ((q108_ : w.heap.size ≤ gb325)); have n3_ := am_ ((q108_ : w.heap.size ≤ gb325)); clear HB; have HB := n0_; have BK325 := n1_; have GW325 := n2_; have GE325 := n3_; clear n0_ n1_ n2_ n3_; clear hb hbox hg)))
 (try simp only [Act.put, la_, lz_, ls_])
 go_cut [22] (fun v22 wc => ∃ (kq : Nat) (x22_1 : Bool), v22 = .bool x22_1 ∧ Aside0 (tilefarmref4_Valid.j0 kq x22_1 a0_0 a0_1 a0_2 l0_3 = some r) ∧ Aside0 (kq ≤ k) ∧ Aside0 (wc.heap[gb325]? = some (.cells #[.int .i64 a0_0, .int .i64 a0_1, .int .i64 a0_2, (.slice A0_3 l0_3.length c0_3)] 26 (0, 0))) ∧ Aside0 (Below w.heap.size w wc))
 case first =>
  have H := HC2.out; clear HC2; replace H := Option.bind_eq_some_iff.mp H; obtain ⟨t326, A40, H⟩ := H; replace H : (if t326 = true then (tilefarmref4_Valid.j0 k ((l0_3.length : Int) != (wrap64 (a0_0 * a0_1))) a0_0 a0_1 a0_2 l0_3) else (tilefarmref4_Valid.j0 k true a0_0 a0_1 a0_2 l0_3)) = some r := H; have A4 := am_ A40; clear A40
  by_cases c5 : t326 = true
  ·subst c5
   have H1 : (tilefarmref4_Valid.j0 k ((l0_3.length : Int) != (wrap64 (a0_0 * a0_1))) a0_0 a0_1 a0_2 l0_3) = some r := by rw [if_pos rfl] at H; exact H
   clear H; have H := H1; clear H1; have H' := am_ H; clear H; have hcz6_0 := bc0_ BK325.out; have hcz6_1 := bc1_ BK325.out; have hcz6_2 := bc2_ BK325.out; have hcz6_3 := bc3_ BK325.out; have hfz6_0 := blk_frozen BK325.out 0; have hfz6_1 := blk_frozen BK325.out 1; have hfz6_2 := blk_frozen BK325.out 2; have hfz6_3 := blk_frozen BK325.out 3
   go_wp2_with (first | (go_at_call 56; (with_reducible refine (tilefarmref4_Size.calls a0_0 a0_1 a0_2 true _ A4.out).mono ?_); rintro e w' ⟨rfl, ⟨nd, rfl⟩⟩; (try first | exact ⟨rfl, _, World.drewN_drewN _ _ _⟩ | exact ⟨rfl, _, Eq.trans (World.drewN_drewN _ _ _) (congrArg (World.drewN _) (Nat.add_assoc _ _ _))⟩)))
   repeat (go_quiet (first | (go_at_call 56; (with_reducible refine (tilefarmref4_Size.calls a0_0 a0_1 a0_2 true _ A4.out).mono ?_); rintro e w' ⟨rfl, ⟨nd, rfl⟩⟩; (try first | exact ⟨rfl, _, World.drewN_drewN _ _ _⟩ | exact ⟨rfl, _, Eq.trans (World.drewN_drewN _ _ _) (congrArg (World.drewN _) (Nat.add_assoc _ _ _))⟩))); try go_wp2_with (first | (go_at_call 56; (with_reducible refine (tilefarmref4_Size.calls a0_0 a0_1 a0_2 true _ A4.out).mono ?_); rintro e w' ⟨rfl, ⟨nd, rfl⟩⟩; (try first | exact ⟨rfl, _, World.drewN_drewN _ _ _⟩ | exact ⟨rfl, _, Eq.trans (World.drewN_drewN _ _ _) (congrArg (World.drewN _) (Nat.add_assoc _ _ _))⟩))))
   go_meet
   case rel => exact ⟨_, (((l0_3.length : Int) != (wrap64 (a0_0 * a0_1)))), q217_, H', ⟨by first | omega | exact Nat.le_refl _⟩, ⟨q171_⟩, ⟨q123_⟩⟩
  ·replace c5 := Bool.eq_false_iff.mpr c5
   subst c5; have H1 : (tilefarmref4_Valid.j0 k true a0_0 a0_1 a0_2 l0_3) = some r := by rw [if_neg (show ¬ (false = true) by decide)] at H; exact H
   clear H; have H := H1; clear H1; have H' := am_ H; clear H; have hcz7_0 := bc0_ BK325.out; have hcz7_1 := bc1_ BK325.out; have hcz7_2 := bc2_ BK325.out; have hcz7_3 := bc3_ BK325.out; have hfz7_0 := blk_frozen BK325.out 0; have hfz7_1 := blk_frozen BK325.out 1; have hfz7_2 := blk_frozen BK325.out 2; have hfz7_3 := blk_frozen BK325.out 3
   go_wp2_with (first | (go_at_call 56; (with_reducible refine (tilefarmref4_Size.calls a0_0 a0_1 a0_2 false _ A4.out).mono ?_); rintro e w' ⟨rfl, ⟨nd, rfl⟩⟩; (try first | exact ⟨rfl, _, World.drewN_drewN _ _ _⟩ | exact ⟨rfl, _, Eq.trans (World.drewN_drewN _ _ _) (congrArg (World.drewN _) (Nat.add_assoc _ _ _))⟩)))
   repeat (go_quiet (first | (go_at_call 56; (with_reducible refine (tilefarmref4_Size.calls a0_0 a0_1 a0_2 false _ A4.out).mono ?_); rintro e w' ⟨rfl, ⟨nd, rfl⟩⟩; (try first | exact ⟨rfl, _, World.drewN_drewN _ _ _⟩ | exact ⟨rfl, _, Eq.trans (World.drewN_drewN _ _ _) (congrArg (World.drewN _) (Nat.add_assoc _ _ _))⟩))); try go_wp2_with (first | (go_at_call 56; (with_reducible refine (tilefarmref4_Size.calls a0_0 a0_1 a0_2 false _ A4.out).mono ?_); rintro e w' ⟨rfl, ⟨nd, rfl⟩⟩; (try first | exact ⟨rfl, _, World.drewN_drewN _ _ _⟩ | exact ⟨rfl, _, Eq.trans (World.drewN_drewN _ _ _) (congrArg (World.drewN _) (Nat.add_assoc _ _ _))⟩))))
   go_meet
   case rel => exact ⟨_, (true), q217_, H', ⟨by first | omega | exact Nat.le_refl _⟩, ⟨q171_⟩, ⟨q123_⟩⟩
 case rest =>
  clear HC2; (try clear p2); (try clear c3); (try clear c5); (try clear p6); (try clear hcz6_0 hcz6_1 hcz6_2 hcz6_3); (try clear hcz7_0 hcz7_1 hcz7_2 hcz7_3); (try clear hfz6_0 hfz6_1 hfz6_2 hfz6_3); (try clear hfz7_0 hfz7_1 hfz7_2 hfz7_3); obtain ⟨kq, x22_1, rfl, HA, HJ1, BK325, HB⟩ := hcut; cases kq with
  | zero => exact absurd HA.out (by simp [tilefarmref4_Valid.j0])
  | succ kj1 =>
   have H := HA.out; clear HA; simp only [tilefarmref4_Valid.j0] at H
   by_cases c8 : x22_1 = true
   ·subst c8
    have H1 : (some false) = some r := by rw [if_pos rfl] at H; exact H
    clear H; have H := H1; clear H1; obtain rfl := Option.some.inj H
    go_wp2
    repeat (go_quiet (fail); try go_wp2)
    go_ret
    exact ⟨q211_, q123_⟩
   ·replace c8 := Bool.eq_false_iff.mpr c8
    subst c8; have H1 : (tilefarmref4_Valid.l0 kj1 0 a0_0 a0_1 a0_2 l0_3) = some r := by rw [if_neg (show ¬ (false = true) by decide)] at H; exact H
    clear H; have H := H1; clear H1; have H' := am_ H; clear H
    go_wp2
    repeat (go_quiet (fail); try go_wp2)
    go_loopg [3] kj1 (fun kq v3 w' => ∃ (x3_2 : Int), v3 = .int .i64 x3_2 ∧ Aside0 (tilefarmref4_Valid.l0 kq x3_2 a0_0 a0_1 a0_2 l0_3 = some r) ∧ Aside0 (kq ≤ kj1) ∧ Aside0 (w'.heap[gb325]? = some (.cells #[.int .i64 a0_0, .int .i64 a0_1, .int .i64 a0_2, (.slice A0_3 l0_3.length c0_3)] 26 (0, 0))) ∧ Aside0 (Below w.heap.size w w'))
    case atStart => exact ⟨(0), q217_, H', ⟨Nat.le_refl _⟩, ⟨q171_⟩, ⟨q123_⟩⟩
    case round =>
     clear H'; (try clear p2); (try clear c3); (try clear c5); (try clear p6); (try clear c8); (try clear hcz6_0 hcz6_1 hcz6_2 hcz6_3); (try clear hcz7_0 hcz7_1 hcz7_2 hcz7_3); (try clear hfz6_0 hfz6_1 hfz6_2 hfz6_3); (try clear hfz7_0 hfz7_1 hfz7_2 hfz7_3); (try clear p2); (try clear p6); obtain ⟨x3_2, rfl, HA, HK2, BK325, HB⟩ := hrel; cases gk with
     | zero => exact absurd HA.out (by simp [tilefarmref4_Valid.l0])
     | succ k2 =>
      have H := HA.out; clear HA; simp only [tilefarmref4_Valid.l0] at H
      by_cases c9 : x3_2 < (l0_3.length : Int)
      ·rw [if_pos c9] at H
       have c9b0 : decide (x3_2 < (l0_3.length : Int)) = true := decide_eq_true c9; clear c9
       by_cases c10 : 0 ≤ x3_2
       ·rw [if_pos c10] at H
        have c10b0 : decide (0 ≤ x3_2) = true := decide_eq_true c10; clear c10
        by_cases c11 : (rd l0_3 x3_2) < 0
        ·rw [if_pos c11] at H
         have c11b0 : decide ((rd l0_3 x3_2) < 0) = true := decide_eq_true c11; clear c11; obtain rfl := Option.some.inj H; have hcz12_0 := bc0_ BK325.out; have hcz12_1 := bc1_ BK325.out; have hcz12_2 := bc2_ BK325.out; have hcz12_3 := bc3_ BK325.out; have hfz12_0 := blk_frozen BK325.out 0; have hfz12_1 := blk_frozen BK325.out 1; have hfz12_2 := blk_frozen BK325.out 2; have hfz12_3 := blk_frozen BK325.out 3; have p327 : 0 ≤ (x3_2 : Int) := of_decide_eq_true q216_; have q327 : x3_2 < (l0_3.length : Int) := of_decide_eq_true q216_; obtain ⟨ad327, e327, hx327_0⟩ := Kd.at_int HR0_3.out x3_2 p327 q327; cases e327; replace hx327_0 := (HB.out.cell (World.block_lt_of_cell? w _ hx327_0)).trans hx327_0; replace p327 := eq_true p327; replace q327 := eq_true q327
         go_wp2
         repeat (go_quiet (fail); try go_wp2)
         go_ret
         exact ⟨q211_, q123_⟩
        ·rw [if_neg c11] at H
         have c11b0 : decide ((rd l0_3 x3_2) < 0) = false := decide_eq_false c11; clear c11
         by_cases c13 : (rd l0_3 x3_2) > a0_2
         ·rw [if_pos c13] at H
          have c13b0 : decide (a0_2 < (rd l0_3 x3_2)) = true := decide_eq_true c13; clear c13; obtain rfl := Option.some.inj H; have hcz14_0 := bc0_ BK325.out; have hcz14_1 := bc1_ BK325.out; have hcz14_2 := bc2_ BK325.out; have hcz14_3 := bc3_ BK325.out; have hfz14_0 := blk_frozen BK325.out 0; have hfz14_1 := blk_frozen BK325.out 1; have hfz14_2 := blk_frozen BK325.out 2; have hfz14_3 := blk_frozen BK325.out 3; have p327 : 0 ≤ (x3_2 : Int) := of_decide_eq_true q216_; have q327 : x3_2 < (l0_3.length : Int) := of_decide_eq_true q216_; obtain ⟨ad327, e327, hx327_0⟩ := Kd.at_int HR0_3.out x3_2 p327 q327; cases e327; replace hx327_0 := (HB.out.cell (World.block_lt_of_cell? w _ hx327_0)).trans hx327_0; replace p327 := eq_true p327; replace q327 := eq_true q327; have p328 : 0 ≤ (x3_2 : Int) := of_decide_eq_true q216_; have q328 : x3_2 < (l0_3.length : Int) := of_decide_eq_true q216_; obtain ⟨ad328, e328, hx328_0⟩ := Kd.at_int HR0_3.out x3_2 p328 q328; obtain rfl : ad327 = ad328 := (by injection e328); replace hx328_0 := (HB.out.cell (World.block_lt_of_cell? w _ hx328_0)).trans hx328_0; replace p328 := eq_true p328; replace q328 := eq_true q328
          go_wp2
          repeat (go_quiet (fail); try go_wp2)
          go_ret
          exact ⟨q211_, q123_⟩
         ·rw [if_neg c13] at H
          have c13b0 : decide (a0_2 < (rd l0_3 x3_2)) = false := decide_eq_false c13; clear c13; have H' := am_ H; clear H; have hcz15_0 := bc0_ BK325.out; have hcz15_1 := bc1_ BK325.out; have hcz15_2 := bc2_ BK325.out; have hcz15_3 := bc3_ BK325.out; have hfz15_0 := blk_frozen BK325.out 0; have hfz15_1 := blk_frozen BK325.out 1; have hfz15_2 := blk_frozen BK325.out 2; have hfz15_3 := blk_frozen BK325.out 3; have p327 : 0 ≤ (x3_2 : Int) := of_decide_eq_true q216_; have q327 : x3_2 < (l0_3.length : Int) := of_decide_eq_true q216_; obtain ⟨ad327, e327, hx327_0⟩ := Kd.at_int HR0_3.out x3_2 p327 q327; cases e327; replace hx327_0 := (HB.out.cell (World.block_lt_of_cell? w _ hx327_0)).trans hx327_0; replace p327 := eq_true p327; replace q327 := eq_true q327; have p328 : 0 ≤ (x3_2 : Int) := of_decide_eq_true q216_; have q328 : x3_2 < (l0_3.length : Int) := of_decide_eq_true q216_; obtain ⟨ad328, e328, hx328_0⟩ := Kd.at_int HR0_3.out x3_2 p328 q328; obtain rfl : ad327 = ad328 := (by injection e328); replace hx328_0 := (HB.out.cell (World.block_lt_of_cell? w _ hx328_0)).trans hx328_0; replace p328 := eq_true p328; replace q328 := eq_true q328
          go_wp2
          repeat (go_quiet (fail); try go_wp2)
          go_roundg k2
          case measure => have := HJ1.out; have := HK2.out; omega
          case rel => exact ⟨(wrap64 (x3_2 + 1)), q217_, H', ⟨by have := HJ1.out; have := HK2.out; omega⟩, ⟨q171_⟩, ⟨q123_⟩⟩
       ·rw [if_neg c10] at H
        exact absurd H (by simp)
      ·rw [if_neg c9] at H
       have c9b0 : decide (x3_2 < (l0_3.length : Int)) = false := decide_eq_false c9; clear c9; obtain rfl := Option.some.inj H; have hcz16_0 := bc0_ BK325.out; have hcz16_1 := bc1_ BK325.out; have hcz16_2 := bc2_ BK325.out; have hcz16_3 := bc3_ BK325.out; have hfz16_0 := blk_frozen BK325.out 0; have hfz16_1 := blk_frozen BK325.out 1; have hfz16_2 := blk_frozen BK325.out 2; have hfz16_3 := blk_frozen BK325.out 3
       go_wp2
       repeat (go_quiet (fail); try go_wp2)
       go_ret
       exact ⟨q211_, q123_⟩


def tilefarmref13_check.f (k : Nat) (a0_0 : Int) (a0_1 : Int) (a0_2 : Int) (l0_3 : List Int) : Option (Int × Int) := (tilefarmref4_Valid.f k a0_0 a0_1 a0_2 l0_3).bind fun t330 => (if t330 = true then ((tilefarmref13_Most.f a0_0 a0_1 a0_2).bind fun bt331 => (if bt331.2 = true then (some (bt331.1, 0)) else (some (0, 11)))) else (some (0, 1)))
theorem tilefarmref13_check.mono : ∀ a0 a1 a2 a3 k, LeO (tilefarmref13_check.f k a0 a1 a2 a3) (tilefarmref13_check.f (k + 1) a0 a1 a2 a3) := by
 intro a0 a1 a2 a3 k; unfold tilefarmref13_check.f
 repeat' first
   | (with_reducible exact tilefarmref4_Valid.mono _ _ _ _ _)
   | (with_reducible exact LeO.refl _)
   | (with_reducible exact LeO.none _)
   | (with_reducible refine LeO.ite ?_ ?_)
   | (with_reducible refine LeO.bind ?_ (fun _ => ?_))
   | exact tilefarmref4_Valid.mono _ _ _ _ _
   | exact LeO.none _
   | refine LeO.ite ?_ ?_
   | refine LeO.bind ?_ (fun _ => ?_)
set_option maxHeartbeats 8000000 in
set_option maxRecDepth 100000 in
theorem tilefarmref13_check.calls (k : Nat) (a0_0 : Int) (a0_1 : Int) (a0_2 : Int) (A0_3 : Option Addr) (c0_3 : Nat) (l0_3 : List Int) (r1 : Int) (r2 : Int) (w : World) (hr0_3 : Kd.C (Kd.int .i64) w A0_3 l0_3.length l0_3) (hc0_3 : l0_3.length ≤ c0_3) (h : tilefarmref13_check.f k a0_0 a0_1 a0_2 l0_3 = some (r1, r2)) :
  Calls Try.prog 37 #[.agg #[.int .i64 a0_0, .int .i64 a0_1, .int .i64 a0_2, .slice A0_3 l0_3.length c0_3]] w fun e w' => e = .returned (.tuple #[.int .i64 r1, .int .i64 r2]) ∧ Below w.heap.size w w' := by
 have hu26 := Try.underlying26; have hu40 := Try.underlying40; have HR0_3 := am_ hr0_3; have HC0_3 := am_ hc0_3; clear hr0_3 hc0_3; have HB := am_ (Below.refl w.heap.size w); have H : ((tilefarmref4_Valid.f k a0_0 a0_1 a0_2 l0_3).bind fun t330 => (if t330 = true then ((tilefarmref13_Most.f a0_0 a0_1 a0_2).bind fun bt331 => (if bt331.2 = true then (some (bt331.1, 0)) else (some (0, 11)))) else (some (0, 1)))) = some (r1, r2) := h; clear h; replace H := Option.bind_eq_some_iff.mp H; obtain ⟨t330, A20, H⟩ := H; replace H : (if t330 = true then ((tilefarmref13_Most.f a0_0 a0_1 a0_2).bind fun bt331 => (if bt331.2 = true then (some (bt331.1, 0)) else (some (0, 11)))) else (some (0, 1))) = some (r1, r2) := H; have A2 := am_ A20; clear A20
 by_cases c3 : t330 = true
 ·subst c3
  have H1 : ((tilefarmref13_Most.f a0_0 a0_1 a0_2).bind fun bt331 => (if bt331.2 = true then (some (bt331.1, 0)) else (some (0, 11)))) = some (r1, r2) := by rw [if_pos rfl] at H; exact H
  clear H; have H := H1; clear H1; replace H := Option.bind_eq_some_iff.mp H; obtain ⟨⟨t331, t332⟩, A40, H⟩ := H; replace H : (if t332 = true then (some (t331, 0)) else (some (0, 11))) = some (r1, r2) := H; have A4 := am_ A40; clear A40
  by_cases c5 : t332 = true
  ·subst c5
   have H1 : (some (t331, 0)) = some (r1, r2) := by rw [if_pos rfl] at H; exact H
   clear H; have H := H1; clear H1; simp only [Option.some.injEq, Prod.mk.injEq] at H; obtain ⟨rfl, rfl⟩ := H
   go_enter Try.func37, Try.ntmps37
   go_wp2_with (first | ((with_reducible refine gate_dst (N := 1) rfl ?_); refine box_event ?hg (N := 1) ?hd (cs := #[.int .i64 a0_0, .int .i64 a0_1, .int .i64 a0_2, .slice A0_3 l0_3.length c0_3]) (t := 26) ?hr ?_; (case hd => rfl); (case hg => rfl); (case hr => first | (go_simp; done) | (go_simp; rfl)); intro gb329 hg w6 hbox hb; have n0_ := am_ (below_step q143_ hb); have n1_ := am_ (hbox); have n2_ := am_ ((q108_ : w.heap.size ≤ gb329)); have n3_ := am_ ((q108_ : w.heap.size ≤ gb329)); clear HB; have HB := n0_; have BK329 := n1_; have GW329 := n2_; have GE329 := n3_; clear n0_ n1_ n2_ n3_; clear hb hbox hg; have hcz7_0 := bc0_ BK329.out; have hcz7_1 := bc1_ BK329.out; have hcz7_2 := bc2_ BK329.out; have hcz7_3 := bc3_ BK329.out; have hfz7_0 := blk_frozen BK329.out 0; have hfz7_1 := blk_frozen BK329.out 1; have hfz7_2 := blk_frozen BK329.out 2; have hfz7_3 := blk_frozen BK329.out 3) | ((with_reducible refine gate_callee (f := 39) rfl ?_); refine goesL_ (some 7) rfl rfl Try.func39 (by kernel_rfl) rfl #[.agg #[.int .i64 a0_0, .int .i64 a0_1, .int .i64 a0_2, .slice A0_3 l0_3.length c0_3]] rfl q140_ ?_; (with_reducible refine (tilefarmref4_Valid.calls k a0_0 a0_1 a0_2 _ _ l0_3 true _ ?side1 ?side2 A2.out).mono ?_); (case side1 => repeat (first | exact (Kd.C_below HR0_3.out HB.out) | (with_reducible refine Kd.C_alloc ?_ _) | (with_reducible refine Kd.C_drewN ?_ _) | (with_reducible refine Kd.C_drew ?_))); (case side2 => exact HC0_3.out); rintro e w8 ⟨rfl, hb⟩; refine ⟨_, rfl, ?_⟩; have n0_ := am_ (blk_below (g := gb329) (o := .cells #[.int .i64 a0_0, .int .i64 a0_1, .int .i64 a0_2, .slice A0_3 l0_3.length c0_3] 26 (0, 0)) q172_ hb); have n1_ := am_ (below_step q124_ hb); clear BK329 HB; have BK329 := n0_; have HB := n1_; clear n0_ n1_; (try clear hb); (try clear hb2); (try clear hk); (try clear hi); have hcz9_0 := bc0_ BK329.out; have hcz9_1 := bc1_ BK329.out; have hcz9_2 := bc2_ BK329.out; have hcz9_3 := bc3_ BK329.out; have hfz9_0 := blk_frozen BK329.out 0; have hfz9_1 := blk_frozen BK329.out 1; have hfz9_2 := blk_frozen BK329.out 2; have hfz9_3 := blk_frozen BK329.out 3) | ((with_reducible refine gate_callee (f := 36) rfl ?_); refine goesL_ (some 17) rfl rfl Try.func36 (by kernel_rfl) rfl #[.agg #[.int .i64 a0_0, .int .i64 a0_1, .int .i64 a0_2]] rfl q140_ ?_; (with_reducible refine (tilefarmref13_Most.calls a0_0 a0_1 a0_2 t331 true _ A4.out).mono ?_); rintro e w10 ⟨rfl, hb⟩; refine ⟨_, rfl, ?_⟩; have n0_ := am_ (blk_below (g := gb329) (o := .cells #[.int .i64 a0_0, .int .i64 a0_1, .int .i64 a0_2, .slice A0_3 l0_3.length c0_3] 26 (0, 0)) q172_ hb); have n1_ := am_ (below_step q124_ hb); clear BK329 HB; have BK329 := n0_; have HB := n1_; clear n0_ n1_; (try clear hb); (try clear hb2); (try clear hk); (try clear hi)))
   go_ret2
   exact ⟨q211_, q124_⟩
  ·replace c5 := Bool.eq_false_iff.mpr c5
   subst c5; have H1 : (some (0, 11)) = some (r1, r2) := by rw [if_neg (show ¬ (false = true) by decide)] at H; exact H
   clear H; have H := H1; clear H1; simp only [Option.some.injEq, Prod.mk.injEq] at H; obtain ⟨rfl, rfl⟩ := H
   go_enter Try.func37, Try.ntmps37
   go_wp2_with (first | ((with_reducible refine gate_dst (N := 1) rfl ?_); refine box_event ?hg (N := 1) ?hd (cs := #[.int .i64 a0_0, .int .i64 a0_1, .int .i64 a0_2, .slice A0_3 l0_3.length c0_3]) (t := 26) ?hr ?_; (case hd => rfl); (case hg => rfl); (case hr => first | (go_simp; done) | (go_simp; rfl)); intro gb329 hg w11 hbox hb; have n0_ := am_ (below_step q143_ hb); have n1_ := am_ (hbox); have n2_ := am_ ((q108_ : w.heap.size ≤ gb329)); have n3_ := am_ ((q108_ : w.heap.size ≤ gb329)); clear HB; have HB := n0_; have BK329 := n1_; have GW329 := n2_; have GE329 := n3_; clear n0_ n1_ n2_ n3_; clear hb hbox hg; have hcz12_0 := bc0_ BK329.out; have hcz12_1 := bc1_ BK329.out; have hcz12_2 := bc2_ BK329.out; have hcz12_3 := bc3_ BK329.out; have hfz12_0 := blk_frozen BK329.out 0; have hfz12_1 := blk_frozen BK329.out 1; have hfz12_2 := blk_frozen BK329.out 2; have hfz12_3 := blk_frozen BK329.out 3) | ((with_reducible refine gate_callee (f := 39) rfl ?_); refine goesL_ (some 7) rfl rfl Try.func39 (by kernel_rfl) rfl #[.agg #[.int .i64 a0_0, .int .i64 a0_1, .int .i64 a0_2, .slice A0_3 l0_3.length c0_3]] rfl q140_ ?_; (with_reducible refine (tilefarmref4_Valid.calls k a0_0 a0_1 a0_2 _ _ l0_3 true _ ?side1 ?side2 A2.out).mono ?_); (case side1 => repeat (first | exact (Kd.C_below HR0_3.out HB.out) | (with_reducible refine Kd.C_alloc ?_ _) | (with_reducible refine Kd.C_drewN ?_ _) | (with_reducible refine Kd.C_drew ?_))); (case side2 => exact HC0_3.out); rintro e w13 ⟨rfl, hb⟩; refine ⟨_, rfl, ?_⟩; have n0_ := am_ (blk_below (g := gb329) (o := .cells #[.int .i64 a0_0, .int .i64 a0_1, .int .i64 a0_2, .slice A0_3 l0_3.length c0_3] 26 (0, 0)) q172_ hb); have n1_ := am_ (below_step q124_ hb); clear BK329 HB; have BK329 := n0_; have HB := n1_; clear n0_ n1_; (try clear hb); (try clear hb2); (try clear hk); (try clear hi); have hcz14_0 := bc0_ BK329.out; have hcz14_1 := bc1_ BK329.out; have hcz14_2 := bc2_ BK329.out; have hcz14_3 := bc3_ BK329.out; have hfz14_0 := blk_frozen BK329.out 0; have hfz14_1 := blk_frozen BK329.out 1; have hfz14_2 := blk_frozen BK329.out 2; have hfz14_3 := blk_frozen BK329.out 3) | ((with_reducible refine gate_callee (f := 36) rfl ?_); refine goesL_ (some 17) rfl rfl Try.func36 (by kernel_rfl) rfl #[.agg #[.int .i64 a0_0, .int .i64 a0_1, .int .i64 a0_2]] rfl q140_ ?_; (with_reducible refine (tilefarmref13_Most.calls a0_0 a0_1 a0_2 t331 false _ A4.out).mono ?_); rintro e w15 ⟨rfl, hb⟩; refine ⟨_, rfl, ?_⟩; have n0_ := am_ (blk_below (g := gb329) (o := .cells #[.int .i64 a0_0, .int .i64 a0_1, .int .i64 a0_2, .slice A0_3 l0_3.length c0_3] 26 (0, 0)) q172_ hb); have n1_ := am_ (below_step q124_ hb); clear BK329 HB; have BK329 := n0_; have HB := n1_; clear n0_ n1_; (try clear hb); (try clear hb2); (try clear hk); (try clear hi)))
   go_ret2
   exact ⟨q211_, q124_⟩
 ·replace c3 := Bool.eq_false_iff.mpr c3
  subst c3; have H1 : (some (0, 1)) = some (r1, r2) := by rw [if_neg (show ¬ (false = true) by decide)] at H; exact H
  clear H; have H := H1; clear H1; simp only [Option.some.injEq, Prod.mk.injEq] at H; obtain ⟨rfl, rfl⟩ := H
  go_enter Try.func37, Try.ntmps37
  go_wp2_with (first | ((with_reducible refine gate_dst (N := 1) rfl ?_); refine box_event ?hg (N := 1) ?hd (cs := #[.int .i64 a0_0, .int .i64 a0_1, .int .i64 a0_2, .slice A0_3 l0_3.length c0_3]) (t := 26) ?hr ?_; (case hd => rfl); (case hg => rfl); (case hr => first | (go_simp; done) | (go_simp; rfl)); intro gb329 hg w16 hbox hb; have n0_ := am_ (below_step q143_ hb); have n1_ := am_ (hbox); have n2_ := am_ ((q108_ : w.heap.size ≤ gb329)); have n3_ := am_ ((q108_ : w.heap.size ≤ gb329)); clear HB; have HB := n0_; have BK329 := n1_; have GW329 := n2_; have GE329 := n3_; clear n0_ n1_ n2_ n3_; clear hb hbox hg; have hcz17_0 := bc0_ BK329.out; have hcz17_1 := bc1_ BK329.out; have hcz17_2 := bc2_ BK329.out; have hcz17_3 := bc3_ BK329.out; have hfz17_0 := blk_frozen BK329.out 0; have hfz17_1 := blk_frozen BK329.out 1; have hfz17_2 := blk_frozen BK329.out 2; have hfz17_3 := blk_frozen BK329.out 3) | ((with_reducible refine gate_callee (f := 39) rfl ?_); refine goesL_ (some 7) rfl rfl Try.func39 (by kernel_rfl) rfl #[.agg #[.int .i64 a0_0, .int .i64 a0_1, .int .i64 a0_2, .slice A0_3 l0_3.length c0_3]] rfl q140_ ?_; (with_reducible refine (tilefarmref4_Valid.calls k a0_0 a0_1 a0_2 _ _ l0_3 false _ ?side1 ?side2 A2.out).mono ?_); (case side1 => repeat (first | exact (Kd.C_below HR0_3.out HB.out) | (with_reducible refine Kd.C_alloc ?_ _) | (with_reducible refine Kd.C_drewN ?_ _) | (with_reducible refine Kd.C_drew ?_))); (case side2 => exact HC0_3.out); rintro e w18 ⟨rfl, hb⟩; refine ⟨_, rfl, ?_⟩; have n0_ := am_ (blk_below (g := gb329) (o := .cells #[.int .i64 a0_0, .int .i64 a0_1, .int .i64 a0_2, .slice A0_3 l0_3.length c0_3] 26 (0, 0)) q172_ hb); have n1_ := am_ (below_step q124_ hb); clear BK329 HB; have BK329 := n0_; have HB := n1_; clear n0_ n1_; (try clear hb); (try clear hb2); (try clear hk); (try clear hi)))
  go_ret2
  exact ⟨q211_, q124_⟩


def tilefarmref4_New.f (a0 : Int) (a1 : Int) (a2 : Int) : Option (Int × Int × Int × List Int × Bool) := (tilefarmref4_Size.f a0 a1 a2).bind fun t334 => (if t334 = true then (if 0 ≤ (wrap64 (a0 * a1)) then (if (wrap64 (a0 * a1) : Int).toNat ≤ 35184372088832 then (some (a0, a1, a2, (List.replicate (wrap64 (a0 * a1) : Int).toNat 0), true)) else (none)) else (none)) else (some (0, 0, 0, ([] : List Int), false)))
set_option maxHeartbeats 8000000 in
set_option maxRecDepth 100000 in
theorem tilefarmref4_New.calls (a0 : Int) (a1 : Int) (a2 : Int) (r1 : Int) (r2 : Int) (r3 : Int) (r4 : List Int) (r5 : Bool) (w : World) (h : tilefarmref4_New.f a0 a1 a2 = some (r1, r2, r3, r4, r5)) :
  Calls Try.prog 38 #[.int .i64 a0, .int .i64 a1, .int .i64 a2] w fun e w' => ∃ v3_ : Value, e = .returned (.tuple #[.agg #[.int .i64 r1, .int .i64 r2, .int .i64 r3, v3_], .bool r5]) ∧ Kd.R (Kd.int .i64) 3 w' w.heap.size (fun _ => True) v3_ r4 ∧ Below w.heap.size w w' := by
 have hu26 := Try.underlying26; have HB := am_ (Below.refl w.heap.size w); have H : ((tilefarmref4_Size.f a0 a1 a2).bind fun t334 => (if t334 = true then (if 0 ≤ (wrap64 (a0 * a1)) then (if (wrap64 (a0 * a1) : Int).toNat ≤ 35184372088832 then (some (a0, a1, a2, (List.replicate (wrap64 (a0 * a1) : Int).toNat 0), true)) else (none)) else (none)) else (some (0, 0, 0, ([] : List Int), false)))) = some (r1, r2, r3, r4, r5) := h; clear h; replace H := Option.bind_eq_some_iff.mp H; obtain ⟨t334, A40, H⟩ := H; replace H : (if t334 = true then (if 0 ≤ (wrap64 (a0 * a1)) then (if (wrap64 (a0 * a1) : Int).toNat ≤ 35184372088832 then (some (a0, a1, a2, (List.replicate (wrap64 (a0 * a1) : Int).toNat 0), true)) else (none)) else (none)) else (some (0, 0, 0, ([] : List Int), false))) = some (r1, r2, r3, r4, r5) := H; have A4 := am_ A40; clear A40
 by_cases c5 : t334 = true
 ·subst c5
  have H1 : (if 0 ≤ (wrap64 (a0 * a1)) then (if (wrap64 (a0 * a1) : Int).toNat ≤ 35184372088832 then (some (a0, a1, a2, (List.replicate (wrap64 (a0 * a1) : Int).toNat 0), true)) else (none)) else (none)) = some (r1, r2, r3, r4, r5) := by rw [if_pos rfl] at H; exact H
  clear H; have H := H1; clear H1; obtain ⟨ji6, hji6⟩ : ∃ j_ : Int, (wrap64 (a0 * a1)) = j_ := ⟨_, rfl⟩; replace H : (if 0 ≤ (ji6) then (if (ji6 : Int).toNat ≤ 35184372088832 then (some (a0, a1, a2, (List.replicate (ji6 : Int).toNat 0), true)) else (none)) else (none)) = some (r1, r2, r3, r4, r5) := by first | (rw [hji6] at H; exact H) | (simp only [hji6] at H ⊢; exact H)
  (try rw [hji6] at A4); have hji6w : (IntKind.i64.wrap (a0 * a1)) = ji6 := (i64_w _).trans hji6
  by_cases c7 : 0 ≤ (ji6)
  ·rw [if_pos c7] at H
   have c7b0 := eq_true c7; have c7b1 : decide (0 ≤ (ji6)) = true := decide_eq_true c7; clear c7
   by_cases c8 : (ji6 : Int).toNat ≤ 35184372088832
   ·rw [if_pos c8] at H
    have c8b0 := eq_true c8; have c8b1 : decide ((ji6 : Int).toNat ≤ 35184372088832) = true := decide_eq_true c8; clear c8; obtain ⟨y335, hy335⟩ : ∃ y_ : List Int, y_ = (List.replicate (ji6 : Int).toNat 0) := ⟨_, rfl⟩; replace H : (some (a0, a1, a2, y335, true)) = some (r1, r2, r3, r4, r5) := by first | (rw [hy335]; with_reducible exact H) | (have H2_ := (Option.bind_some _ _).symm.trans H; rw [hy335]; with_reducible exact H2_) | (have H2_ := (Option.bind_some _ _).symm.trans H; with_reducible exact H2_) | with_reducible exact H | (rw [hy335]; exact H) | exact H
    have Ny335 := am_ hy335; clear hy335; simp only [Option.some.injEq, Prod.mk.injEq] at H; obtain ⟨rfl, rfl, rfl, rfl, rfl⟩ := H
    go_enter Try.func38, Try.ntmps38
    go_wp2_with (first | ((with_reducible refine gate_dst (N := 6) rfl ?_); refine box_event ?hg (N := 6) ?hd (cs := #[.int .i64 0, .int .i64 0, .int .i64 0, .slice none 0 0]) (t := 26) ?hr ?_; (case hd => rfl); (case hg => rfl); (case hr => first | (go_simp; done) | (go_simp; rfl)); intro gb333 hg w9 hbox hb; have n0_ := am_ (below_step q143_ hb); have n1_ := am_ (hbox); have n2_ := am_ ((q108_ : w.heap.size ≤ gb333)); have n3_ := am_ ((q108_ : w.heap.size ≤ gb333)); clear HB; have HB := n0_; have BK333 := n1_; have GW333 := n2_; have GE333 := n3_; clear n0_ n1_ n2_ n3_; clear hb hbox hg) | ((with_reducible refine gate_callee (f := 56) rfl ?_); refine goesL_ (some 11) rfl rfl Try.func56 (by kernel_rfl) rfl #[.int .i64 a0, .int .i64 a1, .int .i64 a2] rfl q140_ ?_; (with_reducible refine (tilefarmref4_Size.calls a0 a1 a2 true _ A4.out).mono ?_); rintro e w' ⟨rfl, ⟨nd, rfl⟩⟩; refine ⟨_, rfl, ?_⟩; (try (rw [drewN_self w9]; generalize hq_ : World.drewN w9 _ = w9; have n0_ : Aside0 (w9.heap[gb333]? = some (.cells #[.int .i64 0, .int .i64 0, .int .i64 0, .slice none 0 0] 26 (0, 0))) := ⟨by rw [← hq_]; exact q173_⟩; have n1_ : Aside0 (Below w.heap.size w w9) := ⟨by rw [← hq_]; exact q125_⟩; clear BK333 HB hq_; have BK333 := n0_; have HB := n1_; clear n0_ n1_))) | ((with_reducible refine gate_dst (N := 20) rfl ?_); refine Kd.R_make (Kd.int .i64) _ 3 rfl (N := 20) rfl 22 _ _ rfl ji6 rfl rfl Try.underlying22 (.int .i64 0) 8 info3 rfl (by decide) (by omega) 0 (ok := fun _ => True) (okp := fun _ => True) rfl (fun _ hk => hk) trivial (of_decide_eq_true q216_) (Nat.le_trans (Nat.mul_le_mul_right _ (of_decide_eq_true q216_ : ji6.toNat ≤ 35184372088832)) (by omega)) (Below.refl _ _) (Nat.le_refl _) ?_; intro v336 w10 ho11 hb hg_ hnew_; clear hg_ hnew_; (first | rw [← Ny335.out] at ho11 | (simp only [Int.reduceToNat] at ho11; rw [← Ny335.out] at ho11)); have n0_ := am_ (Kd.R_lower ho11 (below_size q125_)); have n1_ := am_ (blk_below (g := gb333) (o := .cells #[.int .i64 0, .int .i64 0, .int .i64 0, .slice none 0 0] 26 (0, 0)) q173_ hb); have n2_ := am_ (below_step q125_ hb); clear BK333 HB; have HO337 := n0_; have BK333 := n1_; have HB := n2_; clear n0_ n1_ n2_; clear hb ho11; obtain ⟨Ao12, co12, eo12⟩ := Kd.R_slice HO337.out; subst eo12; have hcz13_0 := bc0_ BK333.out; have hcz13_1 := bc1_ BK333.out; have hcz13_2 := bc2_ BK333.out; have hcz13_3 := bc3_ BK333.out; have hfz13_0 := blk_frozen BK333.out 0; have hfz13_1 := blk_frozen BK333.out 1; have hfz13_2 := blk_frozen BK333.out 2; have hfz13_3 := blk_frozen BK333.out 3))
    refine bodyPost_ret (results_ct rfl _ _ gb333 26 #[.int .i64 a0, .int .i64 a1, .int .i64 a2, .slice Ao12 y335.length co12] (0, 0) _ rfl (by (with_reducible repeat (first | refine blk_drewN ?_ _ | refine blk_drew ?_ | refine blk_alloc ?_ _)); refine blk_put (cs := #[.int .i64 a0, .int .i64 a1, .int .i64 a2, .slice none 0 0]) ?_ 3 _ rfl; (with_reducible repeat (first | refine blk_drewN ?_ _ | refine blk_drew ?_ | refine blk_alloc ?_ _)); refine blk_put (cs := #[.int .i64 a0, .int .i64 a1, .int .i64 0, .slice none 0 0]) ?_ 2 _ rfl; (with_reducible repeat (first | refine blk_drewN ?_ _ | refine blk_drew ?_ | refine blk_alloc ?_ _)); refine blk_put (cs := #[.int .i64 a0, .int .i64 0, .int .i64 0, .slice none 0 0]) ?_ 1 _ rfl; (with_reducible repeat (first | refine blk_drewN ?_ _ | refine blk_drew ?_ | refine blk_alloc ?_ _)); refine blk_put (cs := #[.int .i64 0, .int .i64 0, .int .i64 0, .slice none 0 0]) ?_ 0 _ rfl; (with_reducible repeat (first | refine blk_drewN ?_ _ | refine blk_drew ?_ | refine blk_alloc ?_ _)); exact BK333.out) Try.underlying26 rfl (by kernel_rfl)) rfl ?_; exact ⟨_, q107_, by (with_reducible repeat (first | apply Kd.R_alloc | apply Kd.R_drewN | apply Kd.R_drew)); exact Kd.R_mono (Kd.R_far (p := ⟨gb333, 3, none⟩) (Kd.R_far (p := ⟨gb333, 2, none⟩) (Kd.R_far (p := ⟨gb333, 1, none⟩) (Kd.R_far (p := ⟨gb333, 0, none⟩) (Kd.R_types HO337.out BK333.out (by decide)) (fun _ hk => hk.2) (.int .i64 a0)) (fun _ hk => hk.2) (.int .i64 a1)) (fun _ hk => hk.2) (.int .i64 a2)) (fun _ hk => hk.2) (.slice Ao12 y335.length co12)) (fun _ hk => trivial), q125_⟩
   ·rw [if_neg c8] at H
    exact absurd H (by simp)
  ·rw [if_neg c7] at H
   exact absurd H (by simp)
 ·replace c5 := Bool.eq_false_iff.mpr c5
  subst c5; have H1 : (some (0, 0, 0, ([] : List Int), false)) = some (r1, r2, r3, r4, r5) := by rw [if_neg (show ¬ (false = true) by decide)] at H; exact H
  clear H; have H := H1; clear H1; simp only [Option.some.injEq, Prod.mk.injEq] at H; obtain ⟨rfl, rfl, rfl, rfl, rfl⟩ := H
  go_enter Try.func38, Try.ntmps38
  go_wp2_with (first | ((with_reducible refine gate_dst (N := 6) rfl ?_); refine box_event ?hg (N := 6) ?hd (cs := #[.int .i64 0, .int .i64 0, .int .i64 0, .slice none 0 0]) (t := 26) ?hr ?_; (case hd => rfl); (case hg => rfl); (case hr => first | (go_simp; done) | (go_simp; rfl)); intro gb333 hg w14 hbox hb; have n0_ := am_ (below_step q143_ hb); have n1_ := am_ (hbox); have n2_ := am_ ((q108_ : w.heap.size ≤ gb333)); have n3_ := am_ ((q108_ : w.heap.size ≤ gb333)); clear HB; have HB := n0_; have BK333 := n1_; have GW333 := n2_; have GE333 := n3_; clear n0_ n1_ n2_ n3_; clear hb hbox hg) | ((with_reducible refine gate_callee (f := 56) rfl ?_); refine goesL_ (some 11) rfl rfl Try.func56 (by kernel_rfl) rfl #[.int .i64 a0, .int .i64 a1, .int .i64 a2] rfl q140_ ?_; (with_reducible refine (tilefarmref4_Size.calls a0 a1 a2 false _ A4.out).mono ?_); rintro e w' ⟨rfl, ⟨nd, rfl⟩⟩; refine ⟨_, rfl, ?_⟩; (try (rw [drewN_self w14]; generalize hq_ : World.drewN w14 _ = w14; have n0_ : Aside0 (w14.heap[gb333]? = some (.cells #[.int .i64 0, .int .i64 0, .int .i64 0, .slice none 0 0] 26 (0, 0))) := ⟨by rw [← hq_]; exact q173_⟩; have n1_ : Aside0 (Below w.heap.size w w14) := ⟨by rw [← hq_]; exact q125_⟩; clear BK333 HB hq_; have BK333 := n0_; have HB := n1_; clear n0_ n1_)); have hcz15_0 := bc0_ BK333.out; have hcz15_1 := bc1_ BK333.out; have hcz15_2 := bc2_ BK333.out; have hcz15_3 := bc3_ BK333.out; have hfz15_0 := blk_frozen BK333.out 0; have hfz15_1 := blk_frozen BK333.out 1; have hfz15_2 := blk_frozen BK333.out 2; have hfz15_3 := blk_frozen BK333.out 3))
  refine bodyPost_ret (results_ct rfl _ _ gb333 26 #[.int .i64 0, .int .i64 0, .int .i64 0, .slice none 0 0] (0, 0) _ rfl (by (with_reducible repeat (first | refine blk_drewN ?_ _ | refine blk_drew ?_ | refine blk_alloc ?_ _)); refine blk_put (cs := #[.int .i64 0, .int .i64 0, .int .i64 0, .slice none 0 0]) ?_ 3 _ rfl; (with_reducible repeat (first | refine blk_drewN ?_ _ | refine blk_drew ?_ | refine blk_alloc ?_ _)); refine blk_put (cs := #[.int .i64 0, .int .i64 0, .int .i64 0, .slice none 0 0]) ?_ 2 _ rfl; (with_reducible repeat (first | refine blk_drewN ?_ _ | refine blk_drew ?_ | refine blk_alloc ?_ _)); refine blk_put (cs := #[.int .i64 0, .int .i64 0, .int .i64 0, .slice none 0 0]) ?_ 1 _ rfl; (with_reducible repeat (first | refine blk_drewN ?_ _ | refine blk_drew ?_ | refine blk_alloc ?_ _)); refine blk_put (cs := #[.int .i64 0, .int .i64 0, .int .i64 0, .slice none 0 0]) ?_ 0 _ rfl; (with_reducible repeat (first | refine blk_drewN ?_ _ | refine blk_drew ?_ | refine blk_alloc ?_ _)); exact BK333.out) Try.underlying26 rfl (by kernel_rfl)) rfl ?_; exact ⟨_, q211_, q139_, q125_⟩

end Go.Proofs.Ytkipnpgcpohlcaa.PIntegralWhole
