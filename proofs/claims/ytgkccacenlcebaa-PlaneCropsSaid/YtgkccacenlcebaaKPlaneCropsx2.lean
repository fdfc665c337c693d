-- Written by a program of the session (wip/tools/pack.py): the printed texts, pruned; checked by Lean.
import Derived.Test.YtgkccacenlcebaaKPlaneCropsa
import Derived.Test.YtgkccacenlcebaaKPlaneCropsx0
namespace Go.Proofs.Ytgkccacenlcebaa.PPlaneCrops
open Go.RowKit Go.Proofs.YtgkccacenlcebaaW.PrintWords Go.Proofs.YtgkccacenlcebaaW.PrintLast Go.Proofs.YtgkccacenlcebaaW.PrintMore
attribute [local go_sem] max2_int min2_int max_two min_two max_three min_three max_four min_four   -- for this text's walks alone
set_option linter.unusedVariables false
set_option linter.unusedSimpArgs false
def IsS54 (w0 W : World) (g : Nat) (f0 : List Int) (f1 : Int) : Prop := ∃ A0 c0, W.heap[g]? = some (.cells #[.slice A0 f0.length c0, .int .i64 f1] 54 (0, 0)) ∧ w0.heap.size ≤ g ∧ Kd.C (Kd.int .i64) w0 A0 f0.length f0
theorem IsS54.grown {w0 W : World} {g : Nat} {f0 : List Int} {f1 : Int} {W1 : World} {row : Option Nat} (h : IsS54 w0 W g f0 f1) (hw : W.grownBy W1 row) (hne : some g ≠ row) : IsS54 w0 W1 g f0 f1 := by
 obtain ⟨A0, c0, hb, hg, hr0⟩ := h; exact ⟨A0, c0, blk_grown hb hw hne, hg, hr0⟩
theorem IsS54.kept {w0 W : World} {g : Nat} {f0 : List Int} {f1 : Int} {W1 : World} {S : Nat → Prop} (h : IsS54 w0 W g f0 f1) (hk : Kept W W1 S) (hne : ¬ S g) : IsS54 w0 W1 g f0 f1 := by
 obtain ⟨A0, c0, hb, hg, hr0⟩ := h; exact ⟨A0, c0, blk_kept hb hk hne, hg, hr0⟩
theorem IsS54.below {w0 W : World} {g : Nat} {f0 : List Int} {f1 : Int} {W1 : World} (h : IsS54 w0 W g f0 f1) (hw : Below W.heap.size W W1) : IsS54 w0 W1 g f0 f1 := h.grown (grown_of_below hw none) (by simp)
theorem IsS54.alloc {w0 W : World} {g : Nat} {f0 : List Int} {f1 : Int} (h : IsS54 w0 W g f0 f1) (o : Obj) : IsS54 w0 (W.alloc o) g f0 f1 := h.below (below_alloc (Below.refl _ _) o)
theorem IsS54.drewN {w0 W : World} {g : Nat} {f0 : List Int} {f1 : Int} (h : IsS54 w0 W g f0 f1) (m : Nat) : IsS54 w0 (W.drewN m) g f0 f1 := h
theorem IsS54.drew {w0 W : World} {g : Nat} {f0 : List Int} {f1 : Int} (h : IsS54 w0 W g f0 f1) : IsS54 w0 W.drew g f0 f1 := h
theorem IsS54.at_ {w0 W : World} {g : Nat} {f0 : List Int} {f1 : Int} {w' : World} {m : Nat} (hq : W.drewN m = w') (h : IsS54 w0 W g f0 f1) : IsS54 w0 w' g f0 f1 := by subst hq; exact IsS54.drewN h m
theorem IsS54.apart {w0 W : World} {g : Nat} {f0 : List Int} {f1 : Int} {α : Type} {d : Kd α} {e : Nat} {base : Nat} {ok : Nat → Prop} {v : Value} {xs : List α} (h : IsS54 w0 W g f0 f1) (ho : d.R e W base ok v xs) (ht : ∀ q, q ∈ e :: d.E → q ≠ 54) : d.R e W base (fun k => ok k ∧ k ≠ g) v xs := by
 obtain ⟨A0, c0, hb, hg, hr0⟩ := h; exact Kd.R_types ho hb ht
theorem IsS54.own_ne {w0 W : World} {g : Nat} {f0 : List Int} {f1 : Int} {α : Type} {d : Kd α} {e : Nat} {base : Nat} {ok : Nat → Prop} {v : Value} {xs : List α} (h : IsS54 w0 W g f0 f1) (ho : d.R e W base ok v xs) (ht : e ≠ 54) : some g ≠ v.ownBlock := by
 obtain ⟨A0, c0, hb, hg, hr0⟩ := h; exact Kd.R_ne ho hb ht
theorem IsS54.lt {w0 W : World} {g : Nat} {f0 : List Int} {f1 : Int} (h : IsS54 w0 W g f0 f1) : g < W.heap.size := by
 obtain ⟨A0, c0, hb, hg, hr0⟩ := h; exact blk_lt hb
theorem IsS54.ge {w0 W : World} {g : Nat} {f0 : List Int} {f1 : Int} (h : IsS54 w0 W g f0 f1) : w0.heap.size ≤ g := by
 obtain ⟨A0, c0, hb, hg, hr0⟩ := h; exact hg
theorem IsS54.ne_blk {w0 W : World} {g : Nat} {f0 : List Int} {f1 : Int} {a : Nat} {cs : Array Value} {t : TypeId} {fr : Nat × Nat} (h : IsS54 w0 W g f0 f1) (hb2 : W.heap[a]? = some (.cells cs t fr)) (ht : t ≠ 54) : g ≠ a := by
 obtain ⟨A0, c0, hb, hg, hr0⟩ := h; rintro rfl; rw [hb] at hb2; injection hb2 with hb2; injection hb2 with _ ht2; exact ht ht2.symm
theorem IsS54.far {w0 W : World} {g : Nat} {f0 : List Int} {f1 : Int} {p : Addr} (h : IsS54 w0 W g f0 f1) (hne : g ≠ p.block) (u : Value) : IsS54 w0 (W.setCell p u) g f0 f1 := by
 obtain ⟨A0, c0, hb, hg, hr0⟩ := h; exact ⟨A0, c0, blk_far hb hne u, hg, hr0⟩
theorem cellS54_0 {W : World} {g : Nat} {A0 : Option Addr} {c0 : Nat} {f0 : List Int} {f1 : Int} (h : W.heap[g]? = some (.cells #[.slice A0 f0.length c0, .int .i64 f1] 54 (0, 0))) : W.cell? ⟨g, 0, none⟩ = some (.slice A0 f0.length c0) := (blk_cell h 0).trans rfl
theorem cellS54_1 {W : World} {g : Nat} {A0 : Option Addr} {c0 : Nat} {f0 : List Int} {f1 : Int} (h : W.heap[g]? = some (.cells #[.slice A0 f0.length c0, .int .i64 f1] 54 (0, 0))) : W.cell? ⟨g, 1, none⟩ = some (.int .i64 f1) := (blk_cell h 1).trans rfl
theorem IsS54.set_1 {w0 W : World} {g : Nat} {f0 : List Int} {f1 : Int} (h : IsS54 w0 W g f0 f1) (x : Int) : IsS54 w0 (W.setCell ⟨g, 1, none⟩ (.int .i64 x)) g f0 x := by
 obtain ⟨A0, c0, hb, hg, hr0⟩ := h; exact ⟨A0, c0, by simpa using blk_set hb 1 (.int .i64 x), hg, hr0⟩
def tilefarmgen_New.f (l0 : List Int) : Option (List Int × Int) := some (l0, 0)
set_option maxHeartbeats 8000000 in
set_option maxRecDepth 100000 in
theorem tilefarmgen_New.calls (A0 : Option Addr) (c0 : Nat) (l0 : List Int) (r1 : List Int) (r2 : Int) (w0 w : World) (hB : Below w0.heap.size w0 w) (hr0 : Kd.C (Kd.int .i64) w0 A0 l0.length l0) (hc0 : l0.length ≤ c0) (h : tilefarmgen_New.f l0 = some (r1, r2)) :
  Calls Try.prog 8 #[.slice A0 l0.length c0] w fun e w' => ∃ g_ : Nat, e = .returned (.pointer (some ⟨g_, 0, none⟩)) ∧ IsS54 w0 w' g_ r1 r2 ∧ Below w0.heap.size w0 w' ∧ Below w.heap.size w w' := by
 have hu54 := Try.underlying54; have HR0 := am_ hr0; have HC0 := am_ hc0; clear hr0 hc0; have HBW := am_ (Below.refl w.heap.size w); have HW0 := am_ hB.size; have HB := am_ hB; clear hB; have H : (some (l0, 0)) = some (r1, r2) := h; clear h; simp only [Option.some.injEq, Prod.mk.injEq] at H; obtain ⟨rfl, rfl⟩ := H
 go_enter Try.func8, Try.ntmps8
 go_wp2_with (first | ((with_reducible refine gate_dst (N := 5) rfl ?_); refine box_event ?hg (N := 5) ?hd (cs := #[.slice A0 l0.length c0, .int .i64 0]) (t := 54) ?hr ?_; (case hd => rfl); (case hg => rfl); (case hr => first | (go_simp; done) | (go_simp; rfl)); intro gb101 hg w2 hbox hb; have n0_ := am_ (below_step HBW.out hb); have n1_ := am_ (below_step q153_ hb); have n2_ := am_ (hbox); have n3_ := am_ ((by rw [hg]; exact (below_size (by repeat (first | (with_reducible first | exact HBW.out | apply below_alloc | apply pw_below_drewN | apply below_drew1) | exact HBW.out))) : w.heap.size ≤ gb101)); have n4_ := am_ ((Nat.le_trans HW0.out (by rw [hg]; exact (below_size (by repeat (first | (with_reducible first | exact HBW.out | apply below_alloc | apply pw_below_drewN | apply below_drew1) | exact HBW.out))) : w.heap.size ≤ gb101) : w0.heap.size ≤ gb101)); clear HBW HB; have HBW := n0_; have HB := n1_; have BK101 := n2_; have GW101 := n3_; have GE101 := n4_; clear n0_ n1_ n2_ n3_ n4_; clear hb hbox hg))
 go_ret
 exact ⟨_, rfl, (show IsS54 w0 _ gb101 l0 0 from ⟨_, _, by (with_reducible repeat (first | refine blk_drewN ?_ _ | refine blk_drew ?_ | refine blk_alloc ?_ _)); exact BK101.out, GE101.out, HR0.out⟩), by repeat (first | (with_reducible first | exact HB.out | apply below_alloc | apply pw_below_drewN | apply below_drew1 | refine below_set ?_ GE101.out) | exact HB.out), by repeat (first | (with_reducible first | exact HBW.out | apply below_alloc | apply pw_below_drewN | apply below_drew1 | refine below_set ?_ GW101.out) | exact HBW.out)⟩


def tilefarmgen_Mod.f (a0 : Int) (a1 : Int) : Option (Int) := if a1 = 0 then (none) else (if (Int.tmod a0 a1) < 0 then (some (wrap64 ((Int.tmod a0 a1) + a1))) else (some (Int.tmod a0 a1)))
set_option maxHeartbeats 8000000 in
set_option maxRecDepth 100000 in
theorem tilefarmgen_Mod.calls (a0 : Int) (a1 : Int) (r : Int) (w : World) (h : tilefarmgen_Mod.f a0 a1 = some r) :
  Calls Try.prog 22 #[.int .i64 a0, .int .i64 a1] w fun e w' => e = .returned (.int .i64 r) ∧ Drawn0 w w' := by
 have H : (if a1 = 0 then (none) else (if (Int.tmod a0 a1) < 0 then (some (wrap64 ((Int.tmod a0 a1) + a1))) else (some (Int.tmod a0 a1)))) = some r := h; clear h
 by_cases c3 : a1 = 0
 ·rw [if_pos c3] at H
  exact absurd H (by simp)
 ·rw [if_neg c3] at H
  have c3b0 : (a1 == 0) = false := beq_eq_false_iff_ne.mpr c3; have c3b1 : (a1 != 0) = true := bne_iff_ne.mpr c3
  by_cases c4 : (Int.tmod a0 a1) < 0
  ·rw [if_pos c4] at H
   have c4b0 : decide ((Int.tmod a0 a1) < 0) = true := decide_eq_true c4; clear c4; obtain rfl := Option.some.inj H
   go_enter Try.func22, Try.ntmps22
   go_wp2
   go_ret
   exact ⟨q227_, q225_⟩
  ·rw [if_neg c4] at H
   have c4b0 : decide ((Int.tmod a0 a1) < 0) = false := decide_eq_false c4; clear c4; obtain rfl := Option.some.inj H
   go_enter Try.func22, Try.ntmps22
   go_wp2
   go_ret
   exact ⟨q227_, q225_⟩


def tilefarmgen_Tape_Next.f (s0_0 : List Int) (s0_1 : Int) (a1 : Int) : Option (Int × Int) := if a1 < 1 then (some (0, s0_1)) else (if s0_1 ≥ (s0_0.length : Int) then (some (0, s0_1)) else (if 0 ≤ (wrap64 ((wrap64 (s0_1 + 1)) - 1)) then (if (wrap64 ((wrap64 (s0_1 + 1)) - 1)) < (s0_0.length : Int) then ((tilefarmgen_Mod.f (rd s0_0 (wrap64 ((wrap64 (s0_1 + 1)) - 1))) a1).bind fun t103 => (some (t103, wrap64 (s0_1 + 1)))) else (none)) else (none)))
set_option maxHeartbeats 8000000 in
set_option maxRecDepth 100000 in
theorem tilefarmgen_Tape_Next.calls (g : Nat) (s0_0 : List Int) (s0_1 : Int) (a1 : Int) (r1 : Int) (r2 : Int) (w0 w : World) (hI : IsS54 w0 w g s0_0 s0_1) (hB : Below w0.heap.size w0 w) (h : tilefarmgen_Tape_Next.f s0_0 s0_1 a1 = some (r1, r2)) :
  Calls Try.prog 10 #[.pointer (some ⟨g, 0, none⟩), .int .i64 a1] w fun e w' => e = .returned (.int .i64 r1) ∧ IsS54 w0 w' g s0_0 r2 ∧ Below w0.heap.size w0 w' ∧ KeepBut w w' g none := by
 have HI0 := am_ hI; have HK := am_ (KeepBut.refl w g none); have HL := am_ hB.size; clear hI; have HW0 := am_ hB.size; have HB := am_ hB; clear hB; have H : (if a1 < 1 then (some (0, s0_1)) else (if s0_1 ≥ (s0_0.length : Int) then (some (0, s0_1)) else (if 0 ≤ (wrap64 ((wrap64 (s0_1 + 1)) - 1)) then (if (wrap64 ((wrap64 (s0_1 + 1)) - 1)) < (s0_0.length : Int) then ((tilefarmgen_Mod.f (rd s0_0 (wrap64 ((wrap64 (s0_1 + 1)) - 1))) a1).bind fun t103 => (some (t103, wrap64 (s0_1 + 1)))) else (none)) else (none)))) = some (r1, r2) := h; clear h
 by_cases c3 : a1 < 1
 ·rw [if_pos c3] at H
  have c3b0 : decide (a1 < 1) = true := decide_eq_true c3; clear c3; simp only [Option.some.injEq, Prod.mk.injEq] at H; obtain ⟨rfl, rfl⟩ := H
  go_enter Try.func10, Try.ntmps10
  go_wp2
  repeat (go_quiet (fail); try go_wp2)
  go_ret
  exact ⟨q224_, q147_, q116_, q148_⟩
 ·rw [if_neg c3] at H
  have c3b0 : decide (a1 < 1) = false := decide_eq_false c3; clear c3
  by_cases c4 : s0_1 ≥ (s0_0.length : Int)
  ·rw [if_pos c4] at H
   have c4b0 : decide ((s0_0.length : Int) ≤ s0_1) = true := decide_eq_true c4; clear c4; simp only [Option.some.injEq, Prod.mk.injEq] at H; obtain ⟨rfl, rfl⟩ := H; obtain ⟨ASz5_0, cSz5_0, HGz5, hgz5, HSz5_0⟩ := HI0.out; have hcz5_0 := cellS54_0 HGz5; have hcz5_1 := cellS54_1 HGz5; have hfz5_1 := blk_frozen HGz5 1; clear HGz5 hgz5
   go_enter Try.func10, Try.ntmps10
   go_wp2
   repeat (go_quiet (fail); try go_wp2)
   go_ret
   exact ⟨q224_, q147_, q116_, q148_⟩
  ·rw [if_neg c4] at H
   have c4b0 : decide ((s0_0.length : Int) ≤ s0_1) = false := decide_eq_false c4; clear c4; obtain ⟨ji6, hji6⟩ : ∃ j_ : Int, (wrap64 ((wrap64 (s0_1 + 1)) - 1)) = j_ := ⟨_, rfl⟩; replace H : (if 0 ≤ (ji6) then (if (ji6) < (s0_0.length : Int) then ((tilefarmgen_Mod.f (rd s0_0 (ji6)) a1).bind fun t103 => (some (t103, wrap64 (s0_1 + 1)))) else (none)) else (none)) = some (r1, r2) := by first | (rw [hji6] at H; exact H) | (simp only [hji6] at H ⊢; exact H)
   have hji6w : (IntKind.i64.wrap ((wrap64 (s0_1 + 1)) - 1)) = ji6 := (i64_w _).trans hji6
   by_cases c7 : 0 ≤ (ji6)
   ·rw [if_pos c7] at H
    have c7b0 : decide (0 ≤ (ji6)) = true := decide_eq_true c7; clear c7
    by_cases c8 : (ji6) < (s0_0.length : Int)
    ·rw [if_pos c8] at H
     have c8b0 : decide ((ji6) < (s0_0.length : Int)) = true := decide_eq_true c8; clear c8; replace H := Option.bind_eq_some_iff.mp H; obtain ⟨t103, A90, H⟩ := H; replace H : (some (t103, wrap64 (s0_1 + 1))) = some (r1, r2) := H; have A9 := am_ A90; clear A90; simp only [Option.some.injEq, Prod.mk.injEq] at H; obtain ⟨rfl, rfl⟩ := H; obtain ⟨ASz10_0, cSz10_0, HGz10, hgz10, HSz10_0⟩ := HI0.out; have hcz10_0 := cellS54_0 HGz10; have hcz10_1 := cellS54_1 HGz10; have hfz10_1 := blk_frozen HGz10 1; clear HGz10 hgz10; have p102 : 0 ≤ ((ji6) : Int) := of_decide_eq_true q226_; have q102 : (ji6) < (s0_0.length : Int) := of_decide_eq_true q226_; obtain ⟨ad102, e102, hx102_0⟩ := Kd.at_int HSz10_0 (ji6) p102 q102; cases e102; have hn102_0 : ad102.block ≠ g := Nat.ne_of_lt (Nat.lt_of_lt_of_le (by have := World.block_lt_of_cell? _ _ hx102_0; first | rwa [add_block] at this | exact this) (IsS54.ge HI0.out)); replace hx102_0 := pw_cell_below HB.out hx102_0; replace hx102_0 := (cell_far (p := ⟨g, 1, none⟩) (by first | (rw [add_block]; exact hn102_0) | (show (Addr.add _ _).block ≠ _; rw [add_block]; exact hn102_0) | exact hn102_0) (.int .i64 (wrap64 (s0_1 + 1)))).trans hx102_0; (try have hy102_0 := fun (n_ : Nat) => (show (((w.drewN n_).setCell ⟨g, 1, none⟩ (.int .i64 (wrap64 (s0_1 + 1))))).cell? _ = some _ from hx102_0)); clear hn102_0; replace p102 := eq_true p102; replace q102 := eq_true q102
     go_enter Try.func10, Try.ntmps10
     go_wp2_with (first | (go_at_call 22; (with_reducible refine (tilefarmgen_Mod.calls (rd s0_0 (ji6)) a1 t103 _ A9.out).mono ?_); rintro e w' ⟨rfl, ⟨nd, rfl⟩⟩; (try first | exact ⟨rfl, _, World.drewN_drewN _ _ _⟩ | exact ⟨rfl, _, Eq.trans (World.drewN_drewN _ _ _) (congrArg (World.drewN _) (Nat.add_assoc _ _ _))⟩)))
     repeat (go_quiet (first | (go_at_call 22; (with_reducible refine (tilefarmgen_Mod.calls (rd s0_0 (ji6)) a1 t103 _ A9.out).mono ?_); rintro e w' ⟨rfl, ⟨nd, rfl⟩⟩; (try first | exact ⟨rfl, _, World.drewN_drewN _ _ _⟩ | exact ⟨rfl, _, Eq.trans (World.drewN_drewN _ _ _) (congrArg (World.drewN _) (Nat.add_assoc _ _ _))⟩))); try go_wp2_with (first | (go_at_call 22; (with_reducible refine (tilefarmgen_Mod.calls (rd s0_0 (ji6)) a1 t103 _ A9.out).mono ?_); rintro e w' ⟨rfl, ⟨nd, rfl⟩⟩; (try first | exact ⟨rfl, _, World.drewN_drewN _ _ _⟩ | exact ⟨rfl, _, Eq.trans (World.drewN_drewN _ _ _) (congrArg (World.drewN _) (Nat.add_assoc _ _ _))⟩))))
     go_ret
     exact ⟨q117_, q147_, q116_, q148_⟩
    ·rw [if_neg c8] at H
     exact absurd H (by simp)
   ·rw [if_neg c7] at H
    exact absurd H (by simp)


def tilefarmgen_Tape_Pick.f (s0_0 : List Int) (s0_1 : Int) (l1 : List Int) : Option (Int × Int) := (tilefarmgen_Tape_Next.f s0_0 s0_1 (l1.length : Int)).bind fun bt104 => (if 0 ≤ bt104.1 then (if bt104.1 < (l1.length : Int) then (some (rd l1 bt104.1, bt104.2)) else (none)) else (none))
set_option maxHeartbeats 8000000 in
set_option maxRecDepth 100000 in
theorem tilefarmgen_Tape_Pick.calls (g : Nat) (s0_0 : List Int) (s0_1 : Int) (A1 : Option Addr) (c1 : Nat) (l1 : List Int) (r1 : Int) (r2 : Int) (w0 w : World) (hI : IsS54 w0 w g s0_0 s0_1) (hB : Below w0.heap.size w0 w) (hr1 : Kd.C (Kd.int .i64) w A1 l1.length l1) (hc1 : l1.length ≤ c1) (hf1 : ∀ ad, A1 = some ad → 0 < l1.length → ad.block ≠ g) (h : tilefarmgen_Tape_Pick.f s0_0 s0_1 l1 = some (r1, r2)) :
  Calls Try.prog 32 #[.pointer (some ⟨g, 0, none⟩), .slice A1 l1.length c1] w fun e w' => e = .returned (.int .i64 r1) ∧ IsS54 w0 w' g s0_0 r2 ∧ Below w0.heap.size w0 w' ∧ KeepBut w w' g none := by
 have HR1 := am_ hr1; have HC1 := am_ hc1; clear hr1 hc1; have HI0 := am_ hI; have HK := am_ (KeepBut.refl w g none); have HL := am_ hB.size; clear hI; have HW0 := am_ hB.size; have HB := am_ hB; clear hB; have H : ((tilefarmgen_Tape_Next.f s0_0 s0_1 (l1.length : Int)).bind fun bt104 => (if 0 ≤ bt104.1 then (if bt104.1 < (l1.length : Int) then (some (rd l1 bt104.1, bt104.2)) else (none)) else (none))) = some (r1, r2) := h; clear h; replace H := Option.bind_eq_some_iff.mp H; obtain ⟨⟨t104, t105⟩, A30, H⟩ := H; replace H : (if 0 ≤ t104 then (if t104 < (l1.length : Int) then (some (rd l1 t104, t105)) else (none)) else (none)) = some (r1, r2) := H; have A3 := am_ A30; clear A30
 by_cases c4 : 0 ≤ t104
 ·rw [if_pos c4] at H
  have c4b0 : decide (0 ≤ t104) = true := decide_eq_true c4; clear c4
  by_cases c5 : t104 < (l1.length : Int)
  ·rw [if_pos c5] at H
   have c5b0 : decide (t104 < (l1.length : Int)) = true := decide_eq_true c5; clear c5; simp only [Option.some.injEq, Prod.mk.injEq] at H; obtain ⟨rfl, rfl⟩ := H
   go_enter Try.func32, Try.ntmps32
   go_wp2_with (first | ((with_reducible refine gate_callee (f := 10) rfl ?_); refine goesL_ (some 9) rfl rfl Try.func10 (by kernel_rfl) rfl #[.pointer (some ⟨g, 0, none⟩), .int .i64 (l1.length : Int)] rfl q150_ ?_; (with_reducible refine (tilefarmgen_Tape_Next.calls g s0_0 s0_1 (l1.length : Int) t104 t105 w0 _ ?side1 ?side2 A3.out).mono ?_); (case side1 => repeat (first | (with_reducible first | exact HI0.out | apply IsS54.alloc | apply IsS54.drewN | apply IsS54.drew | apply IsS54.set_1) | exact HI0.out)); (case side2 => repeat (first | (with_reducible first | exact HB.out | apply below_alloc | apply pw_below_drewN | apply below_drew1 | refine below_set ?_ (IsS54.ge HI0.out)) | exact HB.out)); rintro e w6 ⟨rfl, hi, hb, hk⟩; refine ⟨_, rfl, ?_⟩; have n0_ := am_ (KeepBut.trans q148_ hk (.inl rfl)); have n1_ := am_ (hb); have n2_ := am_ (hi); clear HK HB HI0; have HK := n0_; have HB := n1_; have HI0 := n2_; clear n0_ n1_ n2_; (try clear hb); (try clear hb2); (try clear hk); (try clear hi); have p106 : 0 ≤ (t104 : Int) := of_decide_eq_true q226_; have q106 : t104 < (l1.length : Int) := of_decide_eq_true q226_; obtain ⟨ad106, e106, hx106_0⟩ := Kd.at_int HR1.out t104 p106 q106; cases e106; replace hx106_0 := keep_cell HK.out hx106_0 (by first | (rw [add_block]; exact hf1 _ rfl (by omega)) | exact hf1 _ rfl (by omega) | exact hf1 ad106 rfl (by omega)); replace p106 := eq_true p106; replace q106 := eq_true q106))
   go_ret
   exact ⟨q224_, q147_, q116_, q148_⟩
  ·rw [if_neg c5] at H
   exact absurd H (by simp)
 ·rw [if_neg c4] at H
  exact absurd H (by simp)

end Go.Proofs.Ytgkccacenlcebaa.PPlaneCrops
