-- Written by a program of the session (wip/tools/pack.py): the printed texts, pruned; checked by Lean.
import Derived.Test.YtcfllciehmgikaaKSeparableTurnsa
import Derived.Test.YtcfllciehmgikaaKSeparableTurnsx0
import Derived.Test.YtcfllciehmgikaaKSeparableTurnsx2
import Derived.Test.YtcfllciehmgikaaKSeparableTurnsx7
import Derived.Test.YtcfllciehmgikaaKSeparableTurnsx8
import Derived.Test.YtcfllciehmgikaaKSeparableTurnsx10
import Derived.Test.YtcfllciehmgikaaKSeparableTurnsx11
namespace Go.Proofs.Ytcfllciehmgikaa.PSeparableTurns
open Go.RowKit Go.Proofs.YtcfllciehmgikaaW.PrintWords Go.Proofs.YtcfllciehmgikaaW.PrintLast Go.Proofs.YtcfllciehmgikaaW.PrintMore
attribute [local go_sem] max2_int min2_int max_two min_two max_three min_three max_four min_four   -- for this text's walks alone
set_option linter.unusedVariables false
set_option linter.unusedSimpArgs false
def tilefarmlaw10_SeparableTurns.f (k : Nat) (l0 : List Int) : Option (Bool) := (tilefarmgen_New.f l0).bind fun bt291 => ((tilefarmgen_Tape_Plane.f k bt291.1 bt291.2).bind fun bt294 => ((tilefarmgen_Tape_Next.f bt291.1 bt294.2.2.2.2 4).bind fun bt302 => ((tilefarmgen_Tape_Weights.f k bt291.1 bt302.2 (wrap64 (1 + bt302.1))).bind fun bt304 => ((tilefarmgen_Tape_Next.f bt291.1 bt304.2 4).bind fun bt308 => ((tilefarmgen_Tape_Weights.f k bt291.1 bt308.2 (wrap64 (1 + bt308.1))).bind fun bt310 => ((tilefarmgen_Tape_Edge.f bt291.1 bt310.2 bt294.2.2.1).bind fun bt314 => ((tilefarmgen_Tape_Next.f bt291.1 bt314.2.2 5).bind fun bt317 => ((separable_Tile.f k bt294.1 bt294.2.1 bt294.2.2.1 bt294.2.2.2.1 bt314.1 bt314.2.1 bt304.1 bt310.1 0 bt317.1 255 0 0 bt294.1 bt294.2.1).bind fun bt320 => ((tilefarmlaw10_turn.f k bt294.1 bt294.2.1 bt294.2.2.1 bt294.2.2.2.1).bind fun bt328 => ((separable_Tile.f k bt328.1 bt328.2.1 bt328.2.2.1 bt328.2.2.2 bt314.1 bt314.2.1 bt310.1 bt304.1 0 bt317.1 255 0 0 bt294.2.1 bt294.1).bind fun bt334 => (if bt320.2.2.2.2 = 0 then (if bt334.2.2.2.2 = 0 then (if (bt320.2.2.2.1.length : Int) = (wrap64 (bt294.1 * bt294.2.1)) then ((tilefarmlaw10_turn.f k bt320.1 bt320.2.1 bt320.2.2.1 bt320.2.2.2.1).bind fun bt342 => ((tilefarmref4_Equal.f k bt342.1 bt342.2.1 bt342.2.2.1 bt342.2.2.2 bt334.1 bt334.2.1 bt334.2.2.1 bt334.2.2.2.1).bind fun t348 => (if t348 = true then ((tilefarmlaw10_sane.f k).bind fun t349 => (some t349)) else (some false)))) else (some false)) else (some false)) else (some false))))))))))))
theorem tilefarmlaw10_SeparableTurns.mono : ∀ a0 k, LeO (tilefarmlaw10_SeparableTurns.f k a0) (tilefarmlaw10_SeparableTurns.f (k + 1) a0) := by
 intro a0 k
 unfold tilefarmlaw10_SeparableTurns.f
 repeat' first
   | (with_reducible exact separable_Tile.mono _ _ _ _ _ _ _ _ _ _ _ _ _ _ _ _)
   | (with_reducible exact tilefarmgen_Tape_Plane.mono _ _ _)
   | (with_reducible exact tilefarmgen_Tape_Weights.mono _ _ _ _)
   | (with_reducible exact tilefarmlaw10_sane.mono _)
   | (with_reducible exact tilefarmlaw10_turn.mono _ _ _ _ _)
   | (with_reducible exact tilefarmref4_Equal.mono _ _ _ _ _ _ _ _ _)
   | (with_reducible exact LeO.refl _)
   | (with_reducible exact LeO.none _)
   | (with_reducible refine LeO.ite ?_ ?_)
   | (with_reducible refine LeO.bind ?_ (fun _ => ?_))
   | exact separable_Tile.mono _ _ _ _ _ _ _ _ _ _ _ _ _ _ _ _
   | exact tilefarmgen_Tape_Plane.mono _ _ _
   | exact tilefarmgen_Tape_Weights.mono _ _ _ _
   | exact tilefarmlaw10_sane.mono _
   | exact tilefarmlaw10_turn.mono _ _ _ _ _
   | exact tilefarmref4_Equal.mono _ _ _ _ _ _ _ _ _
   | exact LeO.none _
   | refine LeO.ite ?_ ?_
   | refine LeO.bind ?_ (fun _ => ?_)
def tilefarmlaw10_SeparableTurns.T3 : Bool × List (List Nat × List Nat) := (true, [([], []), ([], []), ([1], [1]), ([2], [2]), ([0, 3, 2], [0, 3]), ([], []), ([], []), ([6, 4], [6]), ([7], [7]), ([5, 8, 7], [5, 8]), ([], []), ([], []), ([11], [11]), ([10, 12, 9], [10, 12]), ([], []), ([14, 13], [14]), ([], []), ([4, 15, 0, 1, 2, 3, 4, 16], [4]), ([9, 17, 0, 1, 2, 3, 4, 5, 6, 7, 8, 9, 16, 17], [9]), ([16, 13, 18, 0, 1, 2, 3, 4, 5, 6, 7, 8, 9, 10, 11, 12, 13, 16, 17, 18], [13, 16]), ([15, 19, 0, 1, 2, 3, 4, 5, 6, 7, 8, 9, 10, 11, 12, 13, 14, 15, 16, 17, 18, 19], [15])])
def tilefarmlaw10_SeparableTurns.B3 : List Nat := [0, 0, 2, 6, 15, 0, 0, 95, 223, 511, 0, 0, 2048, 8191, 0, 32767, 0, 131071, 262143, 524287, 1048575]
theorem tilefarmlaw10_SeparableTurns.tab3 : rtab .any (opsOf Try.f6 3) = tilefarmlaw10_SeparableTurns.T3 := by kernel_rfl
theorem tilefarmlaw10_SeparableTurns.bits3 : waitsOk tilefarmlaw10_SeparableTurns.T3.2 tilefarmlaw10_SeparableTurns.B3 = true := by kernel_rfl
def tilefarmlaw10_SeparableTurns.T5 : Bool × List (List Nat × List Nat) := (true, [([], []), ([0], [0]), ([], []), ([], []), ([], []), ([], []), ([], []), ([6], [6]), ([], []), ([8], [8]), ([7, 9], [7, 9]), ([1, 2, 3, 4, 5, 10, 1], [1, 2, 3, 4, 5, 10]), ([11], [11]), ([12], [12]), ([12], [12]), ([], []), ([15, 13, 11, 0, 1, 2, 3, 4, 5, 6, 7, 8, 9, 10, 11, 12, 13, 15], [13, 15]), ([14, 16, 0, 1, 2, 3, 4, 5, 6, 7, 8, 9, 10, 11, 12, 13, 14, 15, 16], [14])])
def tilefarmlaw10_SeparableTurns.B5 : List Nat := [0, 1, 0, 0, 0, 0, 0, 64, 0, 256, 960, 2047, 4095, 8191, 8191, 0, 49151, 131071]
theorem tilefarmlaw10_SeparableTurns.tab5 : rtab .any (opsOf Try.f6 5) = tilefarmlaw10_SeparableTurns.T5 := by kernel_rfl
theorem tilefarmlaw10_SeparableTurns.bits5 : waitsOk tilefarmlaw10_SeparableTurns.T5.2 tilefarmlaw10_SeparableTurns.B5 = true := by kernel_rfl
def tilefarmlaw10_SeparableTurns.T6 : Bool × List (List Nat × List Nat) := (true, [([], []), ([0], [0]), ([1], [1]), ([2], [2]), ([3, 2], [2, 3]), ([2, 4], [2, 4]), ([5, 2], [5]), ([6], [6]), ([7, 6], [6, 7]), ([8, 6], [6, 8]), ([6], [6]), ([10, 6], [6, 10]), ([6], [6]), ([12, 6], [6, 12]), ([11, 13, 6], [6, 11, 13]), ([9, 14, 6], [6, 9, 14]), ([6, 15], [6, 15]), ([16, 6], [16]), ([17], [17]), ([18, 17, 17], [17, 18]), ([17], [17]), ([19, 20, 19, 17], [17, 19, 20]), ([17, 21], [17, 21]), ([22, 21], [22]), ([23, 23], [23]), ([23, 24], [23, 24]), ([25, 24, 0, 1, 2, 3, 4, 5, 6, 7, 8, 9, 10, 11, 12, 13, 14, 15, 16, 17, 18, 19, 20, 21, 22, 23, 24, 25], [25])])
def tilefarmlaw10_SeparableTurns.B6 : List Nat := [0, 1, 3, 7, 15, 31, 63, 127, 255, 511, 127, 1151, 127, 4223, 15487, 32767, 65535, 131071, 262143, 524287, 262143, 2097151, 4194303, 8388607, 16777215, 33554431, 67108863]
theorem tilefarmlaw10_SeparableTurns.tab6 : rtab .any (opsOf Try.f6 6) = tilefarmlaw10_SeparableTurns.T6 := by kernel_rfl
theorem tilefarmlaw10_SeparableTurns.bits6 : waitsOk tilefarmlaw10_SeparableTurns.T6.2 tilefarmlaw10_SeparableTurns.B6 = true := by kernel_rfl
set_option maxHeartbeats 8000000 in
set_option maxRecDepth 100000 in
theorem tilefarmlaw10_SeparableTurns.calls (k : Nat) (A0 : Option Addr) (c0 : Nat) (l0 : List Int) (r : Bool) (w : World) (hr0 : Kd.C (Kd.int .i64) w A0 l0.length l0) (hc0 : l0.length ≤ c0) (h : tilefarmlaw10_SeparableTurns.f k l0 = some r) (hT : r = true := by first | rfl | assumption | exact HT.out) :
  Calls Try.prog 6 #[.slice A0 l0.length c0] w fun e w' => e = .returned (.bool r) ∧ Below w.heap.size w w' := by
 have HT := am_ hT
 clear hT
 have hu35 := Try.underlying35
 have hu38 := Try.underlying38
 have hu33 := Try.underlying33
 have HR0 := am_ hr0
 have HC0 := am_ hc0
 clear hr0 hc0
 have HB := am_ (Below.refl w.heap.size w)
 have H : ((tilefarmgen_New.f l0).bind fun bt291 => ((tilefarmgen_Tape_Plane.f k bt291.1 bt291.2).bind fun bt294 => ((tilefarmgen_Tape_Next.f bt291.1 bt294.2.2.2.2 4).bind fun bt302 => ((tilefarmgen_Tape_Weights.f k bt291.1 bt302.2 (wrap64 (1 + bt302.1))).bind fun bt304 => ((tilefarmgen_Tape_Next.f bt291.1 bt304.2 4).bind fun bt308 => ((tilefarmgen_Tape_Weights.f k bt291.1 bt308.2 (wrap64 (1 + bt308.1))).bind fun bt310 => ((tilefarmgen_Tape_Edge.f bt291.1 bt310.2 bt294.2.2.1).bind fun bt314 => ((tilefarmgen_Tape_Next.f bt291.1 bt314.2.2 5).bind fun bt317 => ((separable_Tile.f k bt294.1 bt294.2.1 bt294.2.2.1 bt294.2.2.2.1 bt314.1 bt314.2.1 bt304.1 bt310.1 0 bt317.1 255 0 0 bt294.1 bt294.2.1).bind fun bt320 => ((tilefarmlaw10_turn.f k bt294.1 bt294.2.1 bt294.2.2.1 bt294.2.2.2.1).bind fun bt328 => ((separable_Tile.f k bt328.1 bt328.2.1 bt328.2.2.1 bt328.2.2.2 bt314.1 bt314.2.1 bt310.1 bt304.1 0 bt317.1 255 0 0 bt294.2.1 bt294.1).bind fun bt334 => (if bt320.2.2.2.2 = 0 then (if bt334.2.2.2.2 = 0 then (if (bt320.2.2.2.1.length : Int) = (wrap64 (bt294.1 * bt294.2.1)) then ((tilefarmlaw10_turn.f k bt320.1 bt320.2.1 bt320.2.2.1 bt320.2.2.2.1).bind fun bt342 => ((tilefarmref4_Equal.f k bt342.1 bt342.2.1 bt342.2.2.1 bt342.2.2.2 bt334.1 bt334.2.1 bt334.2.2.1 bt334.2.2.2.1).bind fun t348 => (if t348 = true then ((tilefarmlaw10_sane.f k).bind fun t349 => (some t349)) else (some false)))) else (some false)) else (some false)) else (some false))))))))))))) = some r := h
 clear h
 replace H := Option.bind_eq_some_iff.mp H
 obtain ⟨⟨t291, t292⟩, A20, H⟩ := H
 replace H : ((tilefarmgen_Tape_Plane.f k t291 t292).bind fun bt294 => ((tilefarmgen_Tape_Next.f t291 bt294.2.2.2.2 4).bind fun bt302 => ((tilefarmgen_Tape_Weights.f k t291 bt302.2 (wrap64 (1 + bt302.1))).bind fun bt304 => ((tilefarmgen_Tape_Next.f t291 bt304.2 4).bind fun bt308 => ((tilefarmgen_Tape_Weights.f k t291 bt308.2 (wrap64 (1 + bt308.1))).bind fun bt310 => ((tilefarmgen_Tape_Edge.f t291 bt310.2 bt294.2.2.1).bind fun bt314 => ((tilefarmgen_Tape_Next.f t291 bt314.2.2 5).bind fun bt317 => ((separable_Tile.f k bt294.1 bt294.2.1 bt294.2.2.1 bt294.2.2.2.1 bt314.1 bt314.2.1 bt304.1 bt310.1 0 bt317.1 255 0 0 bt294.1 bt294.2.1).bind fun bt320 => ((tilefarmlaw10_turn.f k bt294.1 bt294.2.1 bt294.2.2.1 bt294.2.2.2.1).bind fun bt328 => ((separable_Tile.f k bt328.1 bt328.2.1 bt328.2.2.1 bt328.2.2.2 bt314.1 bt314.2.1 bt310.1 bt304.1 0 bt317.1 255 0 0 bt294.2.1 bt294.1).bind fun bt334 => (if bt320.2.2.2.2 = 0 then (if bt334.2.2.2.2 = 0 then (if (bt320.2.2.2.1.length : Int) = (wrap64 (bt294.1 * bt294.2.1)) then ((tilefarmlaw10_turn.f k bt320.1 bt320.2.1 bt320.2.2.1 bt320.2.2.2.1).bind fun bt342 => ((tilefarmref4_Equal.f k bt342.1 bt342.2.1 bt342.2.2.1 bt342.2.2.2 bt334.1 bt334.2.1 bt334.2.2.1 bt334.2.2.2.1).bind fun t348 => (if t348 = true then ((tilefarmlaw10_sane.f k).bind fun t349 => (some t349)) else (some false)))) else (some false)) else (some false)) else (some false)))))))))))) = some r := H
 have A2 := am_ A20
 clear A20
 replace H := Option.bind_eq_some_iff.mp H
 obtain ⟨⟨t294, t295, t296, t297, t300⟩, A30, H⟩ := H
 replace H : ((tilefarmgen_Tape_Next.f t291 t300 4).bind fun bt302 => ((tilefarmgen_Tape_Weights.f k t291 bt302.2 (wrap64 (1 + bt302.1))).bind fun bt304 => ((tilefarmgen_Tape_Next.f t291 bt304.2 4).bind fun bt308 => ((tilefarmgen_Tape_Weights.f k t291 bt308.2 (wrap64 (1 + bt308.1))).bind fun bt310 => ((tilefarmgen_Tape_Edge.f t291 bt310.2 t296).bind fun bt314 => ((tilefarmgen_Tape_Next.f t291 bt314.2.2 5).bind fun bt317 => ((separable_Tile.f k t294 t295 t296 t297 bt314.1 bt314.2.1 bt304.1 bt310.1 0 bt317.1 255 0 0 t294 t295).bind fun bt320 => ((tilefarmlaw10_turn.f k t294 t295 t296 t297).bind fun bt328 => ((separable_Tile.f k bt328.1 bt328.2.1 bt328.2.2.1 bt328.2.2.2 bt314.1 bt314.2.1 bt310.1 bt304.1 0 bt317.1 255 0 0 t295 t294).bind fun bt334 => (if bt320.2.2.2.2 = 0 then (if bt334.2.2.2.2 = 0 then (if (bt320.2.2.2.1.length : Int) = (wrap64 (t294 * t295)) then ((tilefarmlaw10_turn.f k bt320.1 bt320.2.1 bt320.2.2.1 bt320.2.2.2.1).bind fun bt342 => ((tilefarmref4_Equal.f k bt342.1 bt342.2.1 bt342.2.2.1 bt342.2.2.2 bt334.1 bt334.2.1 bt334.2.2.1 bt334.2.2.2.1).bind fun t348 => (if t348 = true then ((tilefarmlaw10_sane.f k).bind fun t349 => (some t349)) else (some false)))) else (some false)) else (some false)) else (some false))))))))))) = some r := H
 have A3 := am_ A30
 clear A30
 replace H := Option.bind_eq_some_iff.mp H
 obtain ⟨⟨t302, t303⟩, A40, H⟩ := H
 replace H : ((tilefarmgen_Tape_Weights.f k t291 t303 (wrap64 (1 + t302))).bind fun bt304 => ((tilefarmgen_Tape_Next.f t291 bt304.2 4).bind fun bt308 => ((tilefarmgen_Tape_Weights.f k t291 bt308.2 (wrap64 (1 + bt308.1))).bind fun bt310 => ((tilefarmgen_Tape_Edge.f t291 bt310.2 t296).bind fun bt314 => ((tilefarmgen_Tape_Next.f t291 bt314.2.2 5).bind fun bt317 => ((separable_Tile.f k t294 t295 t296 t297 bt314.1 bt314.2.1 bt304.1 bt310.1 0 bt317.1 255 0 0 t294 t295).bind fun bt320 => ((tilefarmlaw10_turn.f k t294 t295 t296 t297).bind fun bt328 => ((separable_Tile.f k bt328.1 bt328.2.1 bt328.2.2.1 bt328.2.2.2 bt314.1 bt314.2.1 bt310.1 bt304.1 0 bt317.1 255 0 0 t295 t294).bind fun bt334 => (if bt320.2.2.2.2 = 0 then (if bt334.2.2.2.2 = 0 then (if (bt320.2.2.2.1.length : Int) = (wrap64 (t294 * t295)) then ((tilefarmlaw10_turn.f k bt320.1 bt320.2.1 bt320.2.2.1 bt320.2.2.2.1).bind fun bt342 => ((tilefarmref4_Equal.f k bt342.1 bt342.2.1 bt342.2.2.1 bt342.2.2.2 bt334.1 bt334.2.1 bt334.2.2.1 bt334.2.2.2.1).bind fun t348 => (if t348 = true then ((tilefarmlaw10_sane.f k).bind fun t349 => (some t349)) else (some false)))) else (some false)) else (some false)) else (some false)))))))))) = some r := H
 have A4 := am_ A40
 clear A40
 replace H := Option.bind_eq_some_iff.mp H
 obtain ⟨⟨t304, t307⟩, A50, H⟩ := H
 replace H : ((tilefarmgen_Tape_Next.f t291 t307 4).bind fun bt308 => ((tilefarmgen_Tape_Weights.f k t291 bt308.2 (wrap64 (1 + bt308.1))).bind fun bt310 => ((tilefarmgen_Tape_Edge.f t291 bt310.2 t296).bind fun bt314 => ((tilefarmgen_Tape_Next.f t291 bt314.2.2 5).bind fun bt317 => ((separable_Tile.f k t294 t295 t296 t297 bt314.1 bt314.2.1 t304 bt310.1 0 bt317.1 255 0 0 t294 t295).bind fun bt320 => ((tilefarmlaw10_turn.f k t294 t295 t296 t297).bind fun bt328 => ((separable_Tile.f k bt328.1 bt328.2.1 bt328.2.2.1 bt328.2.2.2 bt314.1 bt314.2.1 bt310.1 t304 0 bt317.1 255 0 0 t295 t294).bind fun bt334 => (if bt320.2.2.2.2 = 0 then (if bt334.2.2.2.2 = 0 then (if (bt320.2.2.2.1.length : Int) = (wrap64 (t294 * t295)) then ((tilefarmlaw10_turn.f k bt320.1 bt320.2.1 bt320.2.2.1 bt320.2.2.2.1).bind fun bt342 => ((tilefarmref4_Equal.f k bt342.1 bt342.2.1 bt342.2.2.1 bt342.2.2.2 bt334.1 bt334.2.1 bt334.2.2.1 bt334.2.2.2.1).bind fun t348 => (if t348 = true then ((tilefarmlaw10_sane.f k).bind fun t349 => (some t349)) else (some false)))) else (some false)) else (some false)) else (some false))))))))) = some r := H
 have A5 := am_ A50
 clear A50
 replace H := Option.bind_eq_some_iff.mp H
 obtain ⟨⟨t308, t309⟩, A60, H⟩ := H
 replace H : ((tilefarmgen_Tape_Weights.f k t291 t309 (wrap64 (1 + t308))).bind fun bt310 => ((tilefarmgen_Tape_Edge.f t291 bt310.2 t296).bind fun bt314 => ((tilefarmgen_Tape_Next.f t291 bt314.2.2 5).bind fun bt317 => ((separable_Tile.f k t294 t295 t296 t297 bt314.1 bt314.2.1 t304 bt310.1 0 bt317.1 255 0 0 t294 t295).bind fun bt320 => ((tilefarmlaw10_turn.f k t294 t295 t296 t297).bind fun bt328 => ((separable_Tile.f k bt328.1 bt328.2.1 bt328.2.2.1 bt328.2.2.2 bt314.1 bt314.2.1 bt310.1 t304 0 bt317.1 255 0 0 t295 t294).bind fun bt334 => (if bt320.2.2.2.2 = 0 then (if bt334.2.2.2.2 = 0 then (if (bt320.2.2.2.1.length : Int) = (wrap64 (t294 * t295)) then ((tilefarmlaw10_turn.f k bt320.1 bt320.2.1 bt320.2.2.1 bt320.2.2.2.1).bind fun bt342 => ((tilefarmref4_Equal.f k bt342.1 bt342.2.1 bt342.2.2.1 bt342.2.2.2 bt334.1 bt334.2.1 bt334.2.2.1 bt334.2.2.2.1).bind fun t348 => (if t348 = true then ((tilefarmlaw10_sane.f k).bind fun t349 => (some t349)) else (some false)))) else (some false)) else (some false)) else (some false)))))))) = some r := H
 have A6 := am_ A60
 clear A60
 replace H := Option.bind_eq_some_iff.mp H
 obtain ⟨⟨t310, t313⟩, A70, H⟩ := H
 replace H : ((tilefarmgen_Tape_Edge.f t291 t313 t296).bind fun bt314 => ((tilefarmgen_Tape_Next.f t291 bt314.2.2 5).bind fun bt317 => ((separable_Tile.f k t294 t295 t296 t297 bt314.1 bt314.2.1 t304 t310 0 bt317.1 255 0 0 t294 t295).bind fun bt320 => ((tilefarmlaw10_turn.f k t294 t295 t296 t297).bind fun bt328 => ((separable_Tile.f k bt328.1 bt328.2.1 bt328.2.2.1 bt328.2.2.2 bt314.1 bt314.2.1 t310 t304 0 bt317.1 255 0 0 t295 t294).bind fun bt334 => (if bt320.2.2.2.2 = 0 then (if bt334.2.2.2.2 = 0 then (if (bt320.2.2.2.1.length : Int) = (wrap64 (t294 * t295)) then ((tilefarmlaw10_turn.f k bt320.1 bt320.2.1 bt320.2.2.1 bt320.2.2.2.1).bind fun bt342 => ((tilefarmref4_Equal.f k bt342.1 bt342.2.1 bt342.2.2.1 bt342.2.2.2 bt334.1 bt334.2.1 bt334.2.2.1 bt334.2.2.2.1).bind fun t348 => (if t348 = true then ((tilefarmlaw10_sane.f k).bind fun t349 => (some t349)) else (some false)))) else (some false)) else (some false)) else (some false))))))) = some r := H
 have A7 := am_ A70
 clear A70
 replace H := Option.bind_eq_some_iff.mp H
 obtain ⟨⟨t314, t315, t316⟩, A80, H⟩ := H
 replace H : ((tilefarmgen_Tape_Next.f t291 t316 5).bind fun bt317 => ((separable_Tile.f k t294 t295 t296 t297 t314 t315 t304 t310 0 bt317.1 255 0 0 t294 t295).bind fun bt320 => ((tilefarmlaw10_turn.f k t294 t295 t296 t297).bind fun bt328 => ((separable_Tile.f k bt328.1 bt328.2.1 bt328.2.2.1 bt328.2.2.2 t314 t315 t310 t304 0 bt317.1 255 0 0 t295 t294).bind fun bt334 => (if bt320.2.2.2.2 = 0 then (if bt334.2.2.2.2 = 0 then (if (bt320.2.2.2.1.length : Int) = (wrap64 (t294 * t295)) then ((tilefarmlaw10_turn.f k bt320.1 bt320.2.1 bt320.2.2.1 bt320.2.2.2.1).bind fun bt342 => ((tilefarmref4_Equal.f k bt342.1 bt342.2.1 bt342.2.2.1 bt342.2.2.2 bt334.1 bt334.2.1 bt334.2.2.1 bt334.2.2.2.1).bind fun t348 => (if t348 = true then ((tilefarmlaw10_sane.f k).bind fun t349 => (some t349)) else (some false)))) else (some false)) else (some false)) else (some false)))))) = some r := H
 have A8 := am_ A80
 clear A80
 replace H := Option.bind_eq_some_iff.mp H
 obtain ⟨⟨t317, t318⟩, A90, H⟩ := H
 replace H : ((separable_Tile.f k t294 t295 t296 t297 t314 t315 t304 t310 0 t317 255 0 0 t294 t295).bind fun bt320 => ((tilefarmlaw10_turn.f k t294 t295 t296 t297).bind fun bt328 => ((separable_Tile.f k bt328.1 bt328.2.1 bt328.2.2.1 bt328.2.2.2 t314 t315 t310 t304 0 t317 255 0 0 t295 t294).bind fun bt334 => (if bt320.2.2.2.2 = 0 then (if bt334.2.2.2.2 = 0 then (if (bt320.2.2.2.1.length : Int) = (wrap64 (t294 * t295)) then ((tilefarmlaw10_turn.f k bt320.1 bt320.2.1 bt320.2.2.1 bt320.2.2.2.1).bind fun bt342 => ((tilefarmref4_Equal.f k bt342.1 bt342.2.1 bt342.2.2.1 bt342.2.2.2 bt334.1 bt334.2.1 bt334.2.2.1 bt334.2.2.2.1).bind fun t348 => (if t348 = true then ((tilefarmlaw10_sane.f k).bind fun t349 => (some t349)) else (some false)))) else (some false)) else (some false)) else (some false))))) = some r := H
 have A9 := am_ A90
 clear A90
 replace H := Option.bind_eq_some_iff.mp H
 obtain ⟨⟨t320, t321, t322, t323, t326⟩, A100, H⟩ := H
 replace H : ((tilefarmlaw10_turn.f k t294 t295 t296 t297).bind fun bt328 => ((separable_Tile.f k bt328.1 bt328.2.1 bt328.2.2.1 bt328.2.2.2 t314 t315 t310 t304 0 t317 255 0 0 t295 t294).bind fun bt334 => (if t326 = 0 then (if bt334.2.2.2.2 = 0 then (if (t323.length : Int) = (wrap64 (t294 * t295)) then ((tilefarmlaw10_turn.f k t320 t321 t322 t323).bind fun bt342 => ((tilefarmref4_Equal.f k bt342.1 bt342.2.1 bt342.2.2.1 bt342.2.2.2 bt334.1 bt334.2.1 bt334.2.2.1 bt334.2.2.2.1).bind fun t348 => (if t348 = true then ((tilefarmlaw10_sane.f k).bind fun t349 => (some t349)) else (some false)))) else (some false)) else (some false)) else (some false)))) = some r := H
 have A10 := am_ A100
 clear A100
 replace H := Option.bind_eq_some_iff.mp H
 obtain ⟨⟨t328, t329, t330, t331⟩, A110, H⟩ := H
 replace H : ((separable_Tile.f k t328 t329 t330 t331 t314 t315 t310 t304 0 t317 255 0 0 t295 t294).bind fun bt334 => (if t326 = 0 then (if bt334.2.2.2.2 = 0 then (if (t323.length : Int) = (wrap64 (t294 * t295)) then ((tilefarmlaw10_turn.f k t320 t321 t322 t323).bind fun bt342 => ((tilefarmref4_Equal.f k bt342.1 bt342.2.1 bt342.2.2.1 bt342.2.2.2 bt334.1 bt334.2.1 bt334.2.2.1 bt334.2.2.2.1).bind fun t348 => (if t348 = true then ((tilefarmlaw10_sane.f k).bind fun t349 => (some t349)) else (some false)))) else (some false)) else (some false)) else (some false))) = some r := H
 have A11 := am_ A110
 clear A110
 replace H := Option.bind_eq_some_iff.mp H
 obtain ⟨⟨t334, t335, t336, t337, t340⟩, A120, H⟩ := H
 replace H : (if t326 = 0 then (if t340 = 0 then (if (t323.length : Int) = (wrap64 (t294 * t295)) then ((tilefarmlaw10_turn.f k t320 t321 t322 t323).bind fun bt342 => ((tilefarmref4_Equal.f k bt342.1 bt342.2.1 bt342.2.2.1 bt342.2.2.2 t334 t335 t336 t337).bind fun t348 => (if t348 = true then ((tilefarmlaw10_sane.f k).bind fun t349 => (some t349)) else (some false)))) else (some false)) else (some false)) else (some false)) = some r := H
 have A12 := am_ A120
 clear A120
 by_cases c13 : t326 = 0
 ·rw [if_pos c13] at H
  have c13b0 : (t326 == 0) = true := beq_iff_eq.mpr c13
  have c13b1 : (t326 != 0) = false := bne_eq_false_iff_eq.mpr c13
  clear c13
  by_cases c14 : t340 = 0
  ·rw [if_pos c14] at H
   have c14b0 : (t340 == 0) = true := beq_iff_eq.mpr c14
   have c14b1 : (t340 != 0) = false := bne_eq_false_iff_eq.mpr c14
   clear c14
   by_cases c15 : (t323.length : Int) = (wrap64 (t294 * t295))
   ·rw [if_pos c15] at H
    have c15b0 : ((t323.length : Int) == (wrap64 (t294 * t295))) = true := beq_iff_eq.mpr c15
    have c15b1 : ((t323.length : Int) != (wrap64 (t294 * t295))) = false := bne_eq_false_iff_eq.mpr c15
    clear c15
    replace H := Option.bind_eq_some_iff.mp H
    obtain ⟨⟨t342, t343, t344, t345⟩, A160, H⟩ := H
    replace H : ((tilefarmref4_Equal.f k t342 t343 t344 t345 t334 t335 t336 t337).bind fun t348 => (if t348 = true then ((tilefarmlaw10_sane.f k).bind fun t349 => (some t349)) else (some false))) = some r := H
    have A16 := am_ A160
    clear A160
    replace H := Option.bind_eq_some_iff.mp H
    obtain ⟨t348, A170, H⟩ := H
    replace H : (if t348 = true then ((tilefarmlaw10_sane.f k).bind fun t349 => (some t349)) else (some false)) = some r := H
    have A17 := am_ A170
    clear A170
    by_cases c18 : t348 = true
    ·subst c18
     have H1 : ((tilefarmlaw10_sane.f k).bind fun t349 => (some t349)) = some r := by rw [if_pos rfl] at H; exact H
     clear H
     have H := H1
     clear H1
     replace H := Option.bind_eq_some_iff.mp H
     obtain ⟨t349, A190, H⟩ := H
     replace H : (some t349) = some r := H
     have A19 := am_ A190
     clear A190
     obtain rfl := Option.some.inj H
     go_enter Try.func6, Try.ntmps6
     try go_wp2_with (first | ((with_reducible refine gate_callee (f := 8) rfl ?_); refine goesL_ (some 14) rfl rfl Try.func8 (by kernel_rfl) rfl #[.slice A0 l0.length c0] rfl q117_ ?_; (with_reducible refine (tilefarmgen_New.calls _ _ l0 t291 t292 w _ ?side1 ?side2 ?side3 A2.out).mono ?_); (case side1 => repeat (first | (with_reducible first | exact HB.out | apply below_alloc | apply pw_below_drewN | apply below_drew1) | exact HB.out)); (case side2 => exact HR0.out); (case side3 => exact HC0.out); rintro e w20 ⟨g293, rfl, hi, hb, hb2⟩; refine ⟨_, rfl, ?_⟩; have n0_ := am_ (hb); have n1_ := am_ (hi); clear HB; have HB := n0_; have HI293 := n1_; clear n0_ n1_) | ((with_reducible refine gate_callee (f := 15) rfl ?_); refine goesL_ (some 16) rfl rfl Try.func15 (by kernel_rfl) rfl #[.pointer (some ⟨g293, 0, none⟩)] rfl q117_ ?_; (with_reducible refine (tilefarmgen_Tape_Plane.calls k g293 t291 t292 t294 t295 t296 t297 t300 w _ ?side1 ?side2 A3.out).mono ?_); (case side1 => repeat (first | (with_reducible first | exact HI293.out | apply IsS53.alloc | apply IsS53.drewN | apply IsS53.drew | apply IsS53.set_1) | exact HI293.out)); (case side2 => repeat (first | (with_reducible first | exact HB.out | apply below_alloc | apply pw_below_drewN | apply below_drew1 | refine below_set ?_ (IsS53.ge HI293.out)) | exact HB.out)); rintro e w21 ⟨v298, rfl, ho0, hi, hb, hk⟩; refine ⟨_, rfl, ?_⟩; have n0_ := am_ (Kd.R_lower ho0 (below_size q92_)); have n1_ := am_ (hb); have n2_ := am_ (hi); clear HB; clear HI293; have HO299 := n0_; have HB := n1_; have HI293 := n2_; clear n0_ n1_ n2_; (try clear ho0)) | ((with_reducible refine gate_dst (N := 4) rfl ?_); (try (refine gate_guard (by rfl) ?_; dsimp only)); refine box_event ?hg (N := 4) ?hd (cs := #[.int .i64 0, .int .i64 0, .int .i64 0, .slice none 0 0]) (t := 35) ?hr ?_; (case hd => rfl); (case hg => rfl); (case hr => first | (go_simp; done) | (go_simp; rfl)); intro gb301 hg w22 hbox hb; have n0_ := am_ (Kd.R_below q170_ hb); have n1_ := am_ (IsS53.below (by repeat (first | (with_reducible first | exact HI293.out | apply IsS53.alloc | apply IsS53.drewN | apply IsS53.drew | apply IsS53.set_1) | exact HI293.out)) hb); have n2_ := am_ (below_step q92_ hb); have n3_ := am_ (hbox); have n4_ := am_ ((by rw [hg]; exact (below_size q92_) : w.heap.size ≤ gb301)); have n5_ := am_ ((by rw [hg]; exact (below_size q92_) : w.heap.size ≤ gb301)); have n6_ := am_ ((by rw [hg]; exact Nat.ne_of_lt (IsS53.lt (show IsS53 w _ g293 t291 t300 from by repeat (first | (with_reducible first | exact HI293.out | apply IsS53.alloc | apply IsS53.drewN | apply IsS53.drew | apply IsS53.set_1) | exact HI293.out))) : g293 ≠ gb301)); have n7_ := am_ ((by rw [hg]; exact Nat.ne_of_gt (IsS53.lt (show IsS53 w _ g293 t291 t300 from by repeat (first | (with_reducible first | exact HI293.out | apply IsS53.alloc | apply IsS53.drewN | apply IsS53.drew | apply IsS53.set_1) | exact HI293.out))) : gb301 ≠ g293)); clear HO299; clear HI293; clear HB; have HO299 := n0_; have HI293 := n1_; have HB := n2_; have BK301 := n3_; have GW301 := n4_; have GE301 := n5_; have NB293_301 := n6_; have NB301_293 := n7_; clear n0_ n1_ n2_ n3_ n4_ n5_ n6_ n7_; clear hb hbox hg; have hnb23 := NB301_293.out; have hnc23 := NB293_301.out; have hcz24_0 : w22.cell? ⟨gb301, 0, none⟩ = some (.int .i64 0) := (blk_cell BK301.out 0).trans rfl; have hcz24_1 : w22.cell? ⟨gb301, 1, none⟩ = some (.int .i64 0) := (blk_cell BK301.out 1).trans rfl; have hcz24_2 : w22.cell? ⟨gb301, 2, none⟩ = some (.int .i64 0) := (blk_cell BK301.out 2).trans rfl; have hcz24_3 : w22.cell? ⟨gb301, 3, none⟩ = some (.slice none 0 0) := (blk_cell BK301.out 3).trans rfl; have hfz24_0 := blk_frozen BK301.out 0; have hfz24_1 := blk_frozen BK301.out 1; have hfz24_2 := blk_frozen BK301.out 2; have hfz24_3 := blk_frozen BK301.out 3; obtain ⟨Ao25, co25, eo25⟩ := Kd.R_slice HO299.out; subst eo25))
     have n0_ : Aside0 (Kd.R (Kd.int .i64) 3 ((((w22.setCell ⟨gb301, 0, none⟩ (.int .i64 t294)).setCell ⟨gb301, 1, none⟩ (.int .i64 t295)).setCell ⟨gb301, 2, none⟩ (.int .i64 t296)).setCell ⟨gb301, 3, none⟩ (.slice Ao25 t297.length co25)) w.heap.size (fun _ => True) (.slice Ao25 t297.length co25) t297) := ⟨by (with_reducible repeat (first | apply Kd.R_alloc | apply Kd.R_drewN | apply Kd.R_drew)); exact Kd.R_mono (Kd.R_far (p := ⟨gb301, 3, none⟩) (Kd.R_far (p := ⟨gb301, 2, none⟩) (Kd.R_far (p := ⟨gb301, 1, none⟩) (Kd.R_far (p := ⟨gb301, 0, none⟩) (Kd.R_types HO299.out BK301.out (by decide)) (fun _ hk => hk.2) (.int .i64 t294)) (fun _ hk => hk.2) (.int .i64 t295)) (fun _ hk => hk.2) (.int .i64 t296)) (fun _ hk => hk.2) (.slice Ao25 t297.length co25)) (fun _ hk => trivial)⟩
     have n1_ : Aside0 (((((w22.setCell ⟨gb301, 0, none⟩ (.int .i64 t294)).setCell ⟨gb301, 1, none⟩ (.int .i64 t295)).setCell ⟨gb301, 2, none⟩ (.int .i64 t296)).setCell ⟨gb301, 3, none⟩ (.slice Ao25 t297.length co25)).heap[gb301]? = some (.cells #[.int .i64 t294, .int .i64 t295, .int .i64 t296, .slice Ao25 t297.length co25] 35 (0, 0))) := ⟨by (with_reducible repeat (first | refine blk_drewN ?_ _ | refine blk_drew ?_ | refine blk_alloc ?_ _)); refine blk_put (cs := #[.int .i64 t294, .int .i64 t295, .int .i64 t296, .slice none 0 0]) ?_ 3 _ rfl; (with_reducible repeat (first | refine blk_drewN ?_ _ | refine blk_drew ?_ | refine blk_alloc ?_ _)); refine blk_put (cs := #[.int .i64 t294, .int .i64 t295, .int .i64 0, .slice none 0 0]) ?_ 2 _ rfl; (with_reducible repeat (first | refine blk_drewN ?_ _ | refine blk_drew ?_ | refine blk_alloc ?_ _)); refine blk_put (cs := #[.int .i64 t294, .int .i64 0, .int .i64 0, .slice none 0 0]) ?_ 1 _ rfl; (with_reducible repeat (first | refine blk_drewN ?_ _ | refine blk_drew ?_ | refine blk_alloc ?_ _)); refine blk_put (cs := #[.int .i64 0, .int .i64 0, .int .i64 0, .slice none 0 0]) ?_ 0 _ rfl; (with_reducible repeat (first | refine blk_drewN ?_ _ | refine blk_drew ?_ | refine blk_alloc ?_ _)); exact BK301.out⟩
     have n2_ : Aside0 (IsS53 w ((((w22.setCell ⟨gb301, 0, none⟩ (.int .i64 t294)).setCell ⟨gb301, 1, none⟩ (.int .i64 t295)).setCell ⟨gb301, 2, none⟩ (.int .i64 t296)).setCell ⟨gb301, 3, none⟩ (.slice Ao25 t297.length co25)) g293 t291 t300) := ⟨q81_⟩
     have n3_ : Aside0 (Below w.heap.size w ((((w22.setCell ⟨gb301, 0, none⟩ (.int .i64 t294)).setCell ⟨gb301, 1, none⟩ (.int .i64 t295)).setCell ⟨gb301, 2, none⟩ (.int .i64 t296)).setCell ⟨gb301, 3, none⟩ (.slice Ao25 t297.length co25))) := ⟨q68_⟩
     (try clear HO299)
     (try clear BK301)
     (try clear HI293)
     (try clear HB)
     generalize ((((w22.setCell ⟨gb301, 0, none⟩ (.int .i64 t294)).setCell ⟨gb301, 1, none⟩ (.int .i64 t295)).setCell ⟨gb301, 2, none⟩ (.int .i64 t296)).setCell ⟨gb301, 3, none⟩ (.slice Ao25 t297.length co25)) = w26 at n0_ n1_ n2_ n3_ ⊢
     have HO299 := n0_
     have BK301 := n1_
     have HI293 := n2_
     have HB := n3_
     clear n0_ n1_ n2_ n3_
     have n0_ := am_ (Kd.R_drew HO299.out)
     have n1_ := am_ (blk_drew BK301.out)
     have n2_ := am_ (IsS53.drew HI293.out)
     have n3_ := am_ (below_drew1 HB.out)
     clear HO299
     clear BK301
     clear HI293
     clear HB
     have HO299 := n0_
     have BK301 := n1_
     have HI293 := n2_
     have HB := n3_
     clear n0_ n1_ n2_ n3_
     refine start_ (n := 21) (S := fun w' => w'.cell? ⟨gb301, 0, none⟩ = some (.int .i64 t294) ∧ w'.cell? ⟨gb301, 1, none⟩ = some (.int .i64 t295) ∧ w'.cell? ⟨gb301, 2, none⟩ = some (.int .i64 t296) ∧ w'.cell? ⟨gb301, 3, none⟩ = some (.slice Ao25 t297.length co25)) (ds := []) #[false, false, false, false, false, false, false, false, false, false, false, false, false, false, false, false, false, false, false, false, false] (by kernel_rfl) rfl rfl ⟨(blk_cell BK301.out 0).trans rfl, (blk_cell BK301.out 1).trans rfl, (blk_cell BK301.out 2).trans rfl, (blk_cell BK301.out 3).trans rfl⟩ (fun hHeld => ?_); refine with_tabW tilefarmlaw10_SeparableTurns.tab3 tilefarmlaw10_SeparableTurns.bits3 (fun HT_ HW_ => ?_)
     generalize w26.drew = w27 at HO299 BK301 HI293 HB hHeld ⊢
     refine pure_ (i := 0) (N := some 17) (v := ?_) (a' := ?_) #[true, false, false, false, false, false, false, false, false, false, false, false, false, false, false, false, false, false, false, false, false] rfl rfl (any_of HT_.out (by kernel_rfl)) (fun _ _ _ h => h) (Or.inl ⟨by rfl, ?_⟩) ?_ ?_
     rotate_left
     ·intro w'
      go_simp
      with_reducible rfl
     rotate_left
     ·simp only [Act.put, List.setIfInBounds_toArray, List.set_cons_zero, List.set_cons_succ, i64_w, i32_w]
      rfl
     refine pure_ (i := 1) (N := some 18) (v := ?_) (a' := ?_) #[true, true, false, false, false, false, false, false, false, false, false, false, false, false, false, false, false, false, false, false, false] rfl rfl (any_of HT_.out (by kernel_rfl)) (fun _ _ _ h => h) (Or.inl ⟨by rfl, ?_⟩) ?_ ?_
     rotate_left
     ·intro w'
      go_simp
      with_reducible rfl
     rotate_left
     ·simp only [Act.put, List.setIfInBounds_toArray, List.set_cons_zero, List.set_cons_succ, i64_w, i32_w]
      rfl
     refine pure_ (i := 5) (N := some 22) (v := ?_) (a' := ?_) #[true, true, false, false, false, true, false, false, false, false, false, false, false, false, false, false, false, false, false, false, false] rfl rfl (any_of HT_.out (by kernel_rfl)) (fun _ _ _ h => h) (Or.inl ⟨by rfl, ?_⟩) ?_ ?_
     rotate_left
     ·intro w'
      go_simp
      with_reducible rfl
     rotate_left
     ·simp only [Act.put, List.setIfInBounds_toArray, List.set_cons_zero, List.set_cons_succ, i64_w, i32_w]
      rfl
     refine pure_ (i := 6) (N := some 23) (v := ?_) (a' := ?_) #[true, true, false, false, false, true, true, false, false, false, false, false, false, false, false, false, false, false, false, false, false] rfl rfl (any_of HT_.out (by kernel_rfl)) (fun _ _ _ h => h) (Or.inl ⟨by rfl, ?_⟩) ?_ ?_
     rotate_left
     ·intro w'
      go_simp
      with_reducible rfl
     rotate_left
     ·simp only [Act.put, List.setIfInBounds_toArray, List.set_cons_zero, List.set_cons_succ, i64_w, i32_w]
      rfl
     refine pure_ (i := 10) (N := some 27) (v := ?_) (a' := ?_) #[true, true, false, false, false, true, true, false, false, false, true, false, false, false, false, false, false, false, false, false, false] rfl rfl (any_of HT_.out (by kernel_rfl)) (fun _ _ _ h => h) (Or.inl ⟨by rfl, ?_⟩) ?_ ?_
     rotate_left
     ·intro w'
      go_simp
      with_reducible rfl
     rotate_left
     ·simp only [Act.put, List.setIfInBounds_toArray, List.set_cons_zero, List.set_cons_succ, i64_w, i32_w]
      rfl
     refine pure_ (i := 11) (N := some 28) (v := ?_) (a' := ?_) #[true, true, false, false, false, true, true, false, false, false, true, true, false, false, false, false, false, false, false, false, false] rfl rfl (any_of HT_.out (by kernel_rfl)) (fun _ _ _ h => h) (Or.inl ⟨by rfl, ?_⟩) ?_ ?_
     rotate_left
     ·intro w'
      go_simp
      with_reducible rfl
     rotate_left
     ·simp only [Act.put, List.setIfInBounds_toArray, List.set_cons_zero, List.set_cons_succ, i64_w, i32_w]
      rfl
     refine pure_ (i := 14) (N := some 31) (v := ?_) (a' := ?_) #[true, true, false, false, false, true, true, false, false, false, true, true, false, false, true, false, false, false, false, false, false] rfl rfl (any_of HT_.out (by kernel_rfl)) (fun _ _ _ h => h) (Or.inl ⟨by rfl, ?_⟩) ?_ ?_
     rotate_left
     ·intro w'
      go_simp
      with_reducible rfl
     rotate_left
     ·simp only [Act.put, List.setIfInBounds_toArray, List.set_cons_zero, List.set_cons_succ, i64_w, i32_w]
      rfl
     refine take_ (i := 12) (N := some 29) (v := ?_) (a' := ?_) #[true, true, false, false, false, true, true, false, false, false, true, true, true, false, true, false, false, false, false, false, false] rfl rfl (take_ofW HT_.out HW_.out (by kernel_rfl)) (fun _ _ _ h => h) (Or.inl ⟨by rfl, ?_⟩) hHeld ?_ ?_
     rotate_left
     ·rintro w' ⟨s0, s1, s2, s3⟩
      go_simp
      with_reducible rfl
     rotate_left
     ·simp only [Act.put, List.setIfInBounds_toArray, List.set_cons_zero, List.set_cons_succ, i64_w, i32_w]
      rfl
     refine join_ (σ := Value × Value × Nat) 4 #[true, true, true, true, true, true, true, true, true, true, true, true, true, true, true, true, true, false, false, false, false] (fun s_ => [(19, .int .i64 t302), (21, s_.1), (24, .int .i64 t308), (26, s_.2.1), (30, .agg #[.int .i64 t314, .int .i64 t315]), (32, .int .i64 t317), (7, .pointer (some ⟨s_.2.2, 0, none⟩)), (20, .int .i64 (wrap64 (1 + t302))), (25, .int .i64 (wrap64 (1 + t308)))]) (fun s_ w' => (w'.cell? ⟨gb301, 0, none⟩ = some (.int .i64 t294) ∧ w'.cell? ⟨gb301, 1, none⟩ = some (.int .i64 t295) ∧ w'.cell? ⟨gb301, 2, none⟩ = some (.int .i64 t296) ∧ w'.cell? ⟨gb301, 3, none⟩ = some (.slice Ao25 t297.length co25)) ∧ (Kd.R (Kd.int .i64) 3 w' w.heap.size (fun k_ => some k_ ≠ (s_.1 : Value).ownBlock ∧ some k_ ≠ (s_.2.1 : Value).ownBlock) (.slice Ao25 t297.length co25) t297) ∧ (Kd.R (Kd.int .i64) 3 w' w.heap.size (fun k_ => some k_ ≠ (.slice Ao25 t297.length co25 : Value).ownBlock ∧ some k_ ≠ (s_.2.1 : Value).ownBlock) s_.1 t304) ∧ (Kd.R (Kd.int .i64) 3 w' w.heap.size (fun k_ => some k_ ≠ (.slice Ao25 t297.length co25 : Value).ownBlock ∧ some k_ ≠ (s_.1 : Value).ownBlock) s_.2.1 t310) ∧ (w'.heap[gb301]? = some (.cells #[.int .i64 t294, .int .i64 t295, .int .i64 t296, .slice Ao25 t297.length co25] 35 (0, 0))) ∧ (w'.heap[s_.2.2]? = some (.cells #[.int .i64 0, .int .i64 0] 38 (0, 0))) ∧ (w.heap.size ≤ s_.2.2) ∧ (w.heap.size ≤ s_.2.2) ∧ (g293 ≠ s_.2.2) ∧ (s_.2.2 ≠ g293) ∧ (gb301 ≠ s_.2.2) ∧ (s_.2.2 ≠ gb301) ∧ (IsS53 w w' g293 t291 t318) ∧ (Below w.heap.size w w')) ?_ ?_
     rotate_left
     ·intro hJ2_4_7_9_13_15_16
      refine join_ (σ := Value × Value) 5 #[true, true, true, true, true, true, true, true, true, true, true, true, true, true, true, true, false, false, false, false, false] (fun s_ => [(19, .int .i64 t302), (21, s_.1), (24, .int .i64 t308), (26, s_.2), (30, .agg #[.int .i64 t314, .int .i64 t315]), (32, .int .i64 t317), (20, .int .i64 (wrap64 (1 + t302))), (25, .int .i64 (wrap64 (1 + t308)))]) (fun s_ w' => (w'.cell? ⟨gb301, 0, none⟩ = some (.int .i64 t294) ∧ w'.cell? ⟨gb301, 1, none⟩ = some (.int .i64 t295) ∧ w'.cell? ⟨gb301, 2, none⟩ = some (.int .i64 t296) ∧ w'.cell? ⟨gb301, 3, none⟩ = some (.slice Ao25 t297.length co25)) ∧ (Kd.R (Kd.int .i64) 3 w' w.heap.size (fun k_ => some k_ ≠ (s_.1 : Value).ownBlock ∧ some k_ ≠ (s_.2 : Value).ownBlock) (.slice Ao25 t297.length co25) t297) ∧ (Kd.R (Kd.int .i64) 3 w' w.heap.size (fun k_ => some k_ ≠ (.slice Ao25 t297.length co25 : Value).ownBlock ∧ some k_ ≠ (s_.2 : Value).ownBlock) s_.1 t304) ∧ (Kd.R (Kd.int .i64) 3 w' w.heap.size (fun k_ => some k_ ≠ (.slice Ao25 t297.length co25 : Value).ownBlock ∧ some k_ ≠ (s_.1 : Value).ownBlock) s_.2 t310) ∧ (w'.heap[gb301]? = some (.cells #[.int .i64 t294, .int .i64 t295, .int .i64 t296, .slice Ao25 t297.length co25] 35 (0, 0))) ∧ (IsS53 w w' g293 t291 t318) ∧ (Below w.heap.size w w')) ?_ ?_
      rotate_left
      ·intro hJ2_4_7_9_13_15
       refine join_ (σ := Value × Value × Nat) 5 #[true, true, true, true, true, true, true, true, true, true, true, true, true, true, true, false, true, false, false, false, false] (fun s_ => [(19, .int .i64 t302), (21, s_.1), (24, .int .i64 t308), (26, s_.2.1), (30, .agg #[.int .i64 t314, .int .i64 t315]), (7, .pointer (some ⟨s_.2.2, 0, none⟩)), (20, .int .i64 (wrap64 (1 + t302))), (25, .int .i64 (wrap64 (1 + t308)))]) (fun s_ w' => (w'.cell? ⟨gb301, 0, none⟩ = some (.int .i64 t294) ∧ w'.cell? ⟨gb301, 1, none⟩ = some (.int .i64 t295) ∧ w'.cell? ⟨gb301, 2, none⟩ = some (.int .i64 t296) ∧ w'.cell? ⟨gb301, 3, none⟩ = some (.slice Ao25 t297.length co25)) ∧ (Kd.R (Kd.int .i64) 3 w' w.heap.size (fun k_ => some k_ ≠ (s_.1 : Value).ownBlock ∧ some k_ ≠ (s_.2.1 : Value).ownBlock) (.slice Ao25 t297.length co25) t297) ∧ (Kd.R (Kd.int .i64) 3 w' w.heap.size (fun k_ => some k_ ≠ (.slice Ao25 t297.length co25 : Value).ownBlock ∧ some k_ ≠ (s_.2.1 : Value).ownBlock) s_.1 t304) ∧ (Kd.R (Kd.int .i64) 3 w' w.heap.size (fun k_ => some k_ ≠ (.slice Ao25 t297.length co25 : Value).ownBlock ∧ some k_ ≠ (s_.1 : Value).ownBlock) s_.2.1 t310) ∧ (w'.heap[gb301]? = some (.cells #[.int .i64 t294, .int .i64 t295, .int .i64 t296, .slice Ao25 t297.length co25] 35 (0, 0))) ∧ (w'.heap[s_.2.2]? = some (.cells #[.int .i64 0, .int .i64 0] 38 (0, 0))) ∧ (w.heap.size ≤ s_.2.2) ∧ (w.heap.size ≤ s_.2.2) ∧ (g293 ≠ s_.2.2) ∧ (s_.2.2 ≠ g293) ∧ (gb301 ≠ s_.2.2) ∧ (s_.2.2 ≠ gb301) ∧ (IsS53 w w' g293 t291 t316) ∧ (Below w.heap.size w w')) ?_ ?_
       rotate_left
       ·intro hJ2_4_7_9_13_16
        refine join_ (σ := Value × Value) 6 #[true, true, true, true, true, true, true, true, true, true, true, true, true, true, true, false, false, false, false, false, false] (fun s_ => [(19, .int .i64 t302), (21, s_.1), (24, .int .i64 t308), (26, s_.2), (30, .agg #[.int .i64 t314, .int .i64 t315]), (20, .int .i64 (wrap64 (1 + t302))), (25, .int .i64 (wrap64 (1 + t308)))]) (fun s_ w' => (w'.cell? ⟨gb301, 0, none⟩ = some (.int .i64 t294) ∧ w'.cell? ⟨gb301, 1, none⟩ = some (.int .i64 t295) ∧ w'.cell? ⟨gb301, 2, none⟩ = some (.int .i64 t296) ∧ w'.cell? ⟨gb301, 3, none⟩ = some (.slice Ao25 t297.length co25)) ∧ (Kd.R (Kd.int .i64) 3 w' w.heap.size (fun k_ => some k_ ≠ (s_.1 : Value).ownBlock ∧ some k_ ≠ (s_.2 : Value).ownBlock) (.slice Ao25 t297.length co25) t297) ∧ (Kd.R (Kd.int .i64) 3 w' w.heap.size (fun k_ => some k_ ≠ (.slice Ao25 t297.length co25 : Value).ownBlock ∧ some k_ ≠ (s_.2 : Value).ownBlock) s_.1 t304) ∧ (Kd.R (Kd.int .i64) 3 w' w.heap.size (fun k_ => some k_ ≠ (.slice Ao25 t297.length co25 : Value).ownBlock ∧ some k_ ≠ (s_.1 : Value).ownBlock) s_.2 t310) ∧ (w'.heap[gb301]? = some (.cells #[.int .i64 t294, .int .i64 t295, .int .i64 t296, .slice Ao25 t297.length co25] 35 (0, 0))) ∧ (IsS53 w w' g293 t291 t316) ∧ (Below w.heap.size w w')) ?_ ?_
        rotate_left
        ·intro hJ2_4_7_9_13
         refine join_ (σ := Value × Value × Nat) 6 #[true, true, true, true, true, true, true, true, true, true, true, true, true, false, true, false, true, false, false, false, false] (fun s_ => [(19, .int .i64 t302), (21, s_.1), (24, .int .i64 t308), (26, s_.2.1), (7, .pointer (some ⟨s_.2.2, 0, none⟩)), (20, .int .i64 (wrap64 (1 + t302))), (25, .int .i64 (wrap64 (1 + t308)))]) (fun s_ w' => (w'.cell? ⟨gb301, 0, none⟩ = some (.int .i64 t294) ∧ w'.cell? ⟨gb301, 1, none⟩ = some (.int .i64 t295) ∧ w'.cell? ⟨gb301, 2, none⟩ = some (.int .i64 t296) ∧ w'.cell? ⟨gb301, 3, none⟩ = some (.slice Ao25 t297.length co25)) ∧ (Kd.R (Kd.int .i64) 3 w' w.heap.size (fun k_ => some k_ ≠ (s_.1 : Value).ownBlock ∧ some k_ ≠ (s_.2.1 : Value).ownBlock) (.slice Ao25 t297.length co25) t297) ∧ (Kd.R (Kd.int .i64) 3 w' w.heap.size (fun k_ => some k_ ≠ (.slice Ao25 t297.length co25 : Value).ownBlock ∧ some k_ ≠ (s_.2.1 : Value).ownBlock) s_.1 t304) ∧ (Kd.R (Kd.int .i64) 3 w' w.heap.size (fun k_ => some k_ ≠ (.slice Ao25 t297.length co25 : Value).ownBlock ∧ some k_ ≠ (s_.1 : Value).ownBlock) s_.2.1 t310) ∧ (w'.heap[gb301]? = some (.cells #[.int .i64 t294, .int .i64 t295, .int .i64 t296, .slice Ao25 t297.length co25] 35 (0, 0))) ∧ (w'.heap[s_.2.2]? = some (.cells #[.int .i64 0, .int .i64 0] 38 (0, 0))) ∧ (w.heap.size ≤ s_.2.2) ∧ (w.heap.size ≤ s_.2.2) ∧ (g293 ≠ s_.2.2) ∧ (s_.2.2 ≠ g293) ∧ (gb301 ≠ s_.2.2) ∧ (s_.2.2 ≠ gb301) ∧ (IsS53 w w' g293 t291 t313) ∧ (Below w.heap.size w w')) ?_ ?_
         rotate_left
         ·intro hJ2_4_7_9_16
          refine join_ (σ := Value × Value) 7 #[true, true, true, true, true, true, true, true, true, true, true, true, true, false, true, false, false, false, false, false, false] (fun s_ => [(19, .int .i64 t302), (21, s_.1), (24, .int .i64 t308), (26, s_.2), (20, .int .i64 (wrap64 (1 + t302))), (25, .int .i64 (wrap64 (1 + t308)))]) (fun s_ w' => (w'.cell? ⟨gb301, 0, none⟩ = some (.int .i64 t294) ∧ w'.cell? ⟨gb301, 1, none⟩ = some (.int .i64 t295) ∧ w'.cell? ⟨gb301, 2, none⟩ = some (.int .i64 t296) ∧ w'.cell? ⟨gb301, 3, none⟩ = some (.slice Ao25 t297.length co25)) ∧ (Kd.R (Kd.int .i64) 3 w' w.heap.size (fun k_ => some k_ ≠ (s_.1 : Value).ownBlock ∧ some k_ ≠ (s_.2 : Value).ownBlock) (.slice Ao25 t297.length co25) t297) ∧ (Kd.R (Kd.int .i64) 3 w' w.heap.size (fun k_ => some k_ ≠ (.slice Ao25 t297.length co25 : Value).ownBlock ∧ some k_ ≠ (s_.2 : Value).ownBlock) s_.1 t304) ∧ (Kd.R (Kd.int .i64) 3 w' w.heap.size (fun k_ => some k_ ≠ (.slice Ao25 t297.length co25 : Value).ownBlock ∧ some k_ ≠ (s_.1 : Value).ownBlock) s_.2 t310) ∧ (w'.heap[gb301]? = some (.cells #[.int .i64 t294, .int .i64 t295, .int .i64 t296, .slice Ao25 t297.length co25] 35 (0, 0))) ∧ (IsS53 w w' g293 t291 t313) ∧ (Below w.heap.size w w')) ?_ ?_
          rotate_left
          ·intro hJ2_4_7_9
           refine join_ (σ := Value × Nat) 7 #[true, true, true, true, true, true, true, true, true, false, true, true, true, false, true, false, true, false, false, false, false] (fun s_ => [(19, .int .i64 t302), (21, s_.1), (24, .int .i64 t308), (7, .pointer (some ⟨s_.2, 0, none⟩)), (20, .int .i64 (wrap64 (1 + t302))), (25, .int .i64 (wrap64 (1 + t308)))]) (fun s_ w' => (w'.cell? ⟨gb301, 0, none⟩ = some (.int .i64 t294) ∧ w'.cell? ⟨gb301, 1, none⟩ = some (.int .i64 t295) ∧ w'.cell? ⟨gb301, 2, none⟩ = some (.int .i64 t296) ∧ w'.cell? ⟨gb301, 3, none⟩ = some (.slice Ao25 t297.length co25)) ∧ (Kd.R (Kd.int .i64) 3 w' w.heap.size (fun k_ => some k_ ≠ (s_.1 : Value).ownBlock) (.slice Ao25 t297.length co25) t297) ∧ (Kd.R (Kd.int .i64) 3 w' w.heap.size (fun k_ => some k_ ≠ (.slice Ao25 t297.length co25 : Value).ownBlock) s_.1 t304) ∧ (w'.heap[gb301]? = some (.cells #[.int .i64 t294, .int .i64 t295, .int .i64 t296, .slice Ao25 t297.length co25] 35 (0, 0))) ∧ (w'.heap[s_.2]? = some (.cells #[.int .i64 0, .int .i64 0] 38 (0, 0))) ∧ (w.heap.size ≤ s_.2) ∧ (w.heap.size ≤ s_.2) ∧ (g293 ≠ s_.2) ∧ (s_.2 ≠ g293) ∧ (gb301 ≠ s_.2) ∧ (s_.2 ≠ gb301) ∧ (IsS53 w w' g293 t291 t309) ∧ (Below w.heap.size w w')) ?_ ?_
           rotate_left
           ·intro hJ2_4_7_16
            refine join_ (σ := Value) 8 #[true, true, true, true, true, true, true, true, true, false, true, true, true, false, true, false, false, false, false, false, false] (fun s_ => [(19, .int .i64 t302), (21, s_), (24, .int .i64 t308), (20, .int .i64 (wrap64 (1 + t302))), (25, .int .i64 (wrap64 (1 + t308)))]) (fun s_ w' => (w'.cell? ⟨gb301, 0, none⟩ = some (.int .i64 t294) ∧ w'.cell? ⟨gb301, 1, none⟩ = some (.int .i64 t295) ∧ w'.cell? ⟨gb301, 2, none⟩ = some (.int .i64 t296) ∧ w'.cell? ⟨gb301, 3, none⟩ = some (.slice Ao25 t297.length co25)) ∧ (Kd.R (Kd.int .i64) 3 w' w.heap.size (fun k_ => some k_ ≠ (s_ : Value).ownBlock) (.slice Ao25 t297.length co25) t297) ∧ (Kd.R (Kd.int .i64) 3 w' w.heap.size (fun k_ => some k_ ≠ (.slice Ao25 t297.length co25 : Value).ownBlock) s_ t304) ∧ (w'.heap[gb301]? = some (.cells #[.int .i64 t294, .int .i64 t295, .int .i64 t296, .slice Ao25 t297.length co25] 35 (0, 0))) ∧ (IsS53 w w' g293 t291 t309) ∧ (Below w.heap.size w w')) ?_ ?_
            rotate_left
            ·intro hJ2_4_7
             refine join_ (σ := Value × Nat) 9 #[true, true, true, true, true, true, true, false, false, false, true, true, true, false, true, false, true, false, false, false, false] (fun s_ => [(19, .int .i64 t302), (21, s_.1), (7, .pointer (some ⟨s_.2, 0, none⟩)), (20, .int .i64 (wrap64 (1 + t302)))]) (fun s_ w' => (w'.cell? ⟨gb301, 0, none⟩ = some (.int .i64 t294) ∧ w'.cell? ⟨gb301, 1, none⟩ = some (.int .i64 t295) ∧ w'.cell? ⟨gb301, 2, none⟩ = some (.int .i64 t296) ∧ w'.cell? ⟨gb301, 3, none⟩ = some (.slice Ao25 t297.length co25)) ∧ (Kd.R (Kd.int .i64) 3 w' w.heap.size (fun k_ => some k_ ≠ (s_.1 : Value).ownBlock) (.slice Ao25 t297.length co25) t297) ∧ (Kd.R (Kd.int .i64) 3 w' w.heap.size (fun k_ => some k_ ≠ (.slice Ao25 t297.length co25 : Value).ownBlock) s_.1 t304) ∧ (w'.heap[gb301]? = some (.cells #[.int .i64 t294, .int .i64 t295, .int .i64 t296, .slice Ao25 t297.length co25] 35 (0, 0))) ∧ (w'.heap[s_.2]? = some (.cells #[.int .i64 0, .int .i64 0] 38 (0, 0))) ∧ (w.heap.size ≤ s_.2) ∧ (w.heap.size ≤ s_.2) ∧ (g293 ≠ s_.2) ∧ (s_.2 ≠ g293) ∧ (gb301 ≠ s_.2) ∧ (s_.2 ≠ gb301) ∧ (IsS53 w w' g293 t291 t307) ∧ (Below w.heap.size w w')) ?_ ?_
             rotate_left
             ·intro hJ2_4_16
              refine join_ (σ := Value) 10 #[true, true, true, true, true, true, true, false, false, false, true, true, true, false, true, false, false, false, false, false, false] (fun s_ => [(19, .int .i64 t302), (21, s_), (20, .int .i64 (wrap64 (1 + t302)))]) (fun s_ w' => (w'.cell? ⟨gb301, 0, none⟩ = some (.int .i64 t294) ∧ w'.cell? ⟨gb301, 1, none⟩ = some (.int .i64 t295) ∧ w'.cell? ⟨gb301, 2, none⟩ = some (.int .i64 t296) ∧ w'.cell? ⟨gb301, 3, none⟩ = some (.slice Ao25 t297.length co25)) ∧ (Kd.R (Kd.int .i64) 3 w' w.heap.size (fun k_ => some k_ ≠ (s_ : Value).ownBlock) (.slice Ao25 t297.length co25) t297) ∧ (Kd.R (Kd.int .i64) 3 w' w.heap.size (fun k_ => some k_ ≠ (.slice Ao25 t297.length co25 : Value).ownBlock) s_ t304) ∧ (w'.heap[gb301]? = some (.cells #[.int .i64 t294, .int .i64 t295, .int .i64 t296, .slice Ao25 t297.length co25] 35 (0, 0))) ∧ (IsS53 w w' g293 t291 t307) ∧ (Below w.heap.size w w')) ?_ ?_
              rotate_left
              ·intro hJ2_4
               refine join_ (σ := Nat) 10 #[true, true, true, true, false, true, true, false, false, false, true, true, true, false, true, false, true, false, false, false, false] (fun s_ => [(19, .int .i64 t302), (7, .pointer (some ⟨s_, 0, none⟩)), (20, .int .i64 (wrap64 (1 + t302)))]) (fun s_ w' => (w'.cell? ⟨gb301, 0, none⟩ = some (.int .i64 t294) ∧ w'.cell? ⟨gb301, 1, none⟩ = some (.int .i64 t295) ∧ w'.cell? ⟨gb301, 2, none⟩ = some (.int .i64 t296) ∧ w'.cell? ⟨gb301, 3, none⟩ = some (.slice Ao25 t297.length co25)) ∧ (Kd.R (Kd.int .i64) 3 w' w.heap.size (fun _ => True) (.slice Ao25 t297.length co25) t297) ∧ (w'.heap[gb301]? = some (.cells #[.int .i64 t294, .int .i64 t295, .int .i64 t296, .slice Ao25 t297.length co25] 35 (0, 0))) ∧ (w'.heap[s_]? = some (.cells #[.int .i64 0, .int .i64 0] 38 (0, 0))) ∧ (w.heap.size ≤ s_) ∧ (w.heap.size ≤ s_) ∧ (g293 ≠ s_) ∧ (s_ ≠ g293) ∧ (gb301 ≠ s_) ∧ (s_ ≠ gb301) ∧ (IsS53 w w' g293 t291 t303) ∧ (Below w.heap.size w w')) ?_ ?_
               rotate_left
               ·intro hJ2_16
                refine join_ (σ := Unit) 11 #[true, true, true, true, false, true, true, false, false, false, true, true, true, false, true, false, false, false, false, false, false] (fun s_ => [(19, .int .i64 t302), (20, .int .i64 (wrap64 (1 + t302)))]) (fun s_ w' => (w'.cell? ⟨gb301, 0, none⟩ = some (.int .i64 t294) ∧ w'.cell? ⟨gb301, 1, none⟩ = some (.int .i64 t295) ∧ w'.cell? ⟨gb301, 2, none⟩ = some (.int .i64 t296) ∧ w'.cell? ⟨gb301, 3, none⟩ = some (.slice Ao25 t297.length co25)) ∧ (Kd.R (Kd.int .i64) 3 w' w.heap.size (fun _ => True) (.slice Ao25 t297.length co25) t297) ∧ (w'.heap[gb301]? = some (.cells #[.int .i64 t294, .int .i64 t295, .int .i64 t296, .slice Ao25 t297.length co25] 35 (0, 0))) ∧ (IsS53 w w' g293 t291 t303) ∧ (Below w.heap.size w w')) ?_ ?_
                rotate_left
                ·intro hJ2
                 refine join_ (σ := Nat) 12 #[true, true, false, false, false, true, true, false, false, false, true, true, true, false, true, false, true, false, false, false, false] (fun s_ => [(7, .pointer (some ⟨s_, 0, none⟩))]) (fun s_ w' => (w'.cell? ⟨gb301, 0, none⟩ = some (.int .i64 t294) ∧ w'.cell? ⟨gb301, 1, none⟩ = some (.int .i64 t295) ∧ w'.cell? ⟨gb301, 2, none⟩ = some (.int .i64 t296) ∧ w'.cell? ⟨gb301, 3, none⟩ = some (.slice Ao25 t297.length co25)) ∧ (Kd.R (Kd.int .i64) 3 w' w.heap.size (fun _ => True) (.slice Ao25 t297.length co25) t297) ∧ (w'.heap[gb301]? = some (.cells #[.int .i64 t294, .int .i64 t295, .int .i64 t296, .slice Ao25 t297.length co25] 35 (0, 0))) ∧ (w'.heap[s_]? = some (.cells #[.int .i64 0, .int .i64 0] 38 (0, 0))) ∧ (w.heap.size ≤ s_) ∧ (w.heap.size ≤ s_) ∧ (g293 ≠ s_) ∧ (s_ ≠ g293) ∧ (gb301 ≠ s_) ∧ (s_ ≠ gb301) ∧ (IsS53 w w' g293 t291 t300) ∧ (Below w.heap.size w w')) ?_ ?_
                 rotate_left
                 ·intro hJ16
                  refine two_ (i := 2) (j := 16) (Ni := some 19) (Nj := some 7) #[true, true, true, false, false, true, true, false, false, false, true, true, true, false, true, false, false, false, false, false, false] #[true, true, false, false, false, true, true, false, false, false, true, true, true, false, true, false, true, false, false, false, false] rfl rfl rfl rfl (two_of HT_.out (by kernel_rfl)) (by decide) (by decide) (fun K hK => ?_) (fun K hK => ?_)
                  ·skip
                   refine goes_ Try.func10 (by kernel_rfl) rfl #[.pointer (some ⟨g293, 0, none⟩), .int .i64 4] (by rfl) rfl rfl q117_ ?_
                   with_reducible refine (tilefarmgen_Tape_Next.calls g293 t291 t300 4 t302 t303 w _ ?side1 ?side2 A4.out).mono ?_
                   (case side1 => repeat (first | (with_reducible first | exact HI293.out | apply IsS53.alloc | apply IsS53.drewN | apply IsS53.drew | apply IsS53.set_1 | refine IsS53.far ?_ NB293_301.out _) | exact HI293.out))
                   (case side2 => repeat (first | (with_reducible first | exact HB.out | apply below_alloc | apply pw_below_drewN | apply below_drew1 | refine below_set ?_ (IsS53.ge HI293.out) | refine below_set ?_ GE301.out) | exact HB.out))
                   rintro e w28 ⟨rfl, hi, hb, hk⟩
                   refine ⟨_, rfl, ?_⟩
                   have n0_ := am_ (Kd.R_mono (Kd.R_keep (IsS53.apart (show IsS53 w _ g293 t291 t300 from by repeat (first | (with_reducible first | exact HI293.out | apply IsS53.alloc | apply IsS53.drewN | apply IsS53.drew | apply IsS53.set_1 | refine IsS53.far ?_ NB293_301.out _) | exact HI293.out)) q170_ (by decide)) hk (fun _ h => h.2)) (fun _ h => h.1))
                   have n1_ := am_ (KeepBut.blk hk (g' := gb301) (o := .cells #[.int .i64 t294, .int .i64 t295, .int .i64 t296, .slice Ao25 t297.length co25] 35 (0, 0)) q149_ NB301_293.out (by simp))
                   have n2_ := am_ (hb)
                   have n3_ := am_ (hi)
                   clear HO299
                   clear BK301
                   clear HB
                   clear HI293
                   have HO299 := n0_
                   have BK301 := n1_
                   have HB := n2_
                   have HI293 := n3_
                   clear n0_ n1_ n2_ n3_
                   (try clear hb)
                   (try clear hb2)
                   (try clear hk)
                   (try clear hi)
                   refine hK.out _ _ ⟨(blk_cell BK301.out 0).trans rfl, (blk_cell BK301.out 1).trans rfl, (blk_cell BK301.out 2).trans rfl, (blk_cell BK301.out 3).trans rfl⟩ (fun hHeld => ?_)
                   clear hK K
                   refine norm_ (a' := ?_) ?_ ?_
                   rotate_left
                   ·show Act.put _ (some 19) _ = _
                    simp only [Act.put, List.setIfInBounds_toArray, List.set_cons_zero, List.set_cons_succ, i64_w, i32_w]
                    rfl
                   refine pure_ (i := 3) (N := some 20) (v := ?_) (a' := ?_) #[true, true, true, true, false, true, true, false, false, false, true, true, true, false, true, false, false, false, false, false, false] rfl rfl (any_of HT_.out (by kernel_rfl)) (fun _ _ _ h => h) (Or.inl ⟨by rfl, ?_⟩) ?_ ?_
                   rotate_left
                   ·intro w'
                    go_simp
                    with_reducible rfl
                   rotate_left
                   ·simp only [Act.put, List.setIfInBounds_toArray, List.set_cons_zero, List.set_cons_succ, i64_w, i32_w]
                    rfl
                   exact norm_ q62_ (hJ2 () _ ⟨hHeld, q170_, q149_, q81_, q68_⟩)
                  ·skip
                   refine box_step ?hg (N := 7) ?hd (cs := #[.int .i64 0, .int .i64 0]) (t := 38) ?hr ?_; (case hd => rfl); (case hg => rfl); (case hr => first | (go_simp; done) | (go_simp; rfl))
                   intro gb319 hg w28 hbox hb
                   have n0_ := am_ (Kd.R_below q170_ hb)
                   have n1_ := am_ (IsS53.below q81_ hb)
                   have n2_ := am_ (blk_below (g := gb301) (o := .cells #[.int .i64 t294, .int .i64 t295, .int .i64 t296, .slice Ao25 t297.length co25] 35 (0, 0)) q149_ hb)
                   have n3_ := am_ (below_step q68_ hb)
                   have n4_ := am_ (hbox)
                   have n5_ := am_ ((q44_ : w.heap.size ≤ gb319))
                   have n6_ := am_ ((q44_ : w.heap.size ≤ gb319))
                   have n7_ := am_ ((q21_ : gb301 ≠ gb319))
                   have n8_ := am_ ((q22_ : gb319 ≠ gb301))
                   have n9_ := am_ ((by rw [hg]; exact Nat.ne_of_lt (IsS53.lt (show IsS53 w _ g293 t291 t300 from by repeat (first | (with_reducible first | exact HI293.out | apply IsS53.alloc | apply IsS53.drewN | apply IsS53.drew | apply IsS53.set_1 | refine IsS53.far ?_ NB293_301.out _) | exact HI293.out))) : g293 ≠ gb319))
                   have n10_ := am_ ((by rw [hg]; exact Nat.ne_of_gt (IsS53.lt (show IsS53 w _ g293 t291 t300 from by repeat (first | (with_reducible first | exact HI293.out | apply IsS53.alloc | apply IsS53.drewN | apply IsS53.drew | apply IsS53.set_1 | refine IsS53.far ?_ NB293_301.out _) | exact HI293.out))) : gb319 ≠ g293))
                   clear HO299
                   clear HI293
                   clear BK301
                   clear HB
                   have HO299 := n0_
                   have HI293 := n1_
                   have BK301 := n2_
                   have HB := n3_
                   have BK319 := n4_
                   have GW319 := n5_
                   have GE319 := n6_
                   have NB301_319 := n7_
                   have NB319_301 := n8_
                   have NB293_319 := n9_
                   have NB319_293 := n10_
                   clear n0_ n1_ n2_ n3_ n4_ n5_ n6_ n7_ n8_ n9_ n10_
                   clear hb hbox hg
                   refine hK.out _ _ ⟨(blk_cell BK301.out 0).trans rfl, (blk_cell BK301.out 1).trans rfl, (blk_cell BK301.out 2).trans rfl, (blk_cell BK301.out 3).trans rfl⟩ (fun hHeld => ?_)
                   clear hK K
                   refine norm_ (a' := ?_) ?_ ?_
                   rotate_left
                   ·show Act.put _ (some 7) _ = _
                    simp only [Act.put, List.setIfInBounds_toArray, List.set_cons_zero, List.set_cons_succ, i64_w, i32_w]
                    rfl
                   exact norm_ q62_ (hJ16 (gb319) _ ⟨hHeld, q170_, q149_, q150_, GW319.out, GE319.out, NB293_319.out, NB319_293.out, NB301_319.out, NB319_301.out, q50_, q45_⟩)
                 ·skip
                  rintro gb319 w29 ⟨hS_, h0_, h1_, h2_, h3_, h4_, h5_, h6_, h7_, h8_, h9_, h10_⟩
                  have n0_ : Aside0 (Kd.R (Kd.int .i64) 3 w29 w.heap.size (fun _ => True) (.slice Ao25 t297.length co25) t297) := ⟨h0_⟩
                  have n1_ : Aside0 (w29.heap[gb301]? = some (.cells #[.int .i64 t294, .int .i64 t295, .int .i64 t296, .slice Ao25 t297.length co25] 35 (0, 0))) := ⟨h1_⟩
                  have n2_ : Aside0 (w29.heap[gb319]? = some (.cells #[.int .i64 0, .int .i64 0] 38 (0, 0))) := ⟨h2_⟩
                  have n3_ : Aside0 (w.heap.size ≤ gb319) := ⟨h3_⟩
                  have n4_ : Aside0 (w.heap.size ≤ gb319) := ⟨h4_⟩
                  have n5_ : Aside0 (g293 ≠ gb319) := ⟨h5_⟩
                  have n6_ : Aside0 (gb319 ≠ g293) := ⟨h6_⟩
                  have n7_ : Aside0 (gb301 ≠ gb319) := ⟨h7_⟩
                  have n8_ : Aside0 (gb319 ≠ gb301) := ⟨h8_⟩
                  have n9_ : Aside0 (IsS53 w w29 g293 t291 t300) := ⟨h9_⟩
                  have n10_ : Aside0 (Below w.heap.size w w29) := ⟨h10_⟩
                  clear HO299
                  clear BK301
                  clear HI293
                  clear HB
                  clear h0_ h1_ h2_ h3_ h4_ h5_ h6_ h7_ h8_ h9_ h10_
                  have HO299 := n0_
                  have BK301 := n1_
                  have BK319 := n2_
                  have GW319 := n3_
                  have GE319 := n4_
                  have NB293_319 := n5_
                  have NB319_293 := n6_
                  have NB301_319 := n7_
                  have NB319_301 := n8_
                  have HI293 := n9_
                  have HB := n10_
                  clear n0_ n1_ n2_ n3_ n4_ n5_ n6_ n7_ n8_ n9_ n10_
                  have hHeld : w29.cell? ⟨gb301, 0, none⟩ = some (.int .i64 t294) ∧ w29.cell? ⟨gb301, 1, none⟩ = some (.int .i64 t295) ∧ w29.cell? ⟨gb301, 2, none⟩ = some (.int .i64 t296) ∧ w29.cell? ⟨gb301, 3, none⟩ = some (.slice Ao25 t297.length co25) := hS_
                  refine norm_ (a' := ?_) ?_ ?_
                  rotate_left
                  ·simp only [putAll, Act.put, List.setIfInBounds_toArray, List.set_cons_zero, List.set_cons_succ]
                   rfl
                  refine one_ (i := 2) (N := some 19) #[true, true, true, false, false, true, true, false, false, false, true, true, true, false, true, false, true, false, false, false, false] rfl rfl (one_of HT_.out (by kernel_rfl)) (by decide) (fun K hK => ?_)
                  refine goes_ Try.func10 (by kernel_rfl) rfl #[.pointer (some ⟨g293, 0, none⟩), .int .i64 4] (by rfl) rfl rfl q117_ ?_
                  with_reducible refine (tilefarmgen_Tape_Next.calls g293 t291 t300 4 t302 t303 w _ ?side1 ?side2 A4.out).mono ?_
                  (case side1 => repeat (first | (with_reducible first | exact HI293.out | apply IsS53.alloc | apply IsS53.drewN | apply IsS53.drew | apply IsS53.set_1 | refine IsS53.far ?_ NB293_301.out _ | refine IsS53.far ?_ NB293_319.out _) | exact HI293.out))
                  (case side2 => repeat (first | (with_reducible first | exact HB.out | apply below_alloc | apply pw_below_drewN | apply below_drew1 | refine below_set ?_ (IsS53.ge HI293.out) | refine below_set ?_ GE301.out | refine below_set ?_ GE319.out) | exact HB.out))
                  rintro e w30 ⟨rfl, hi, hb, hk⟩
                  refine ⟨_, rfl, ?_⟩
                  have n0_ := am_ (Kd.R_mono (Kd.R_keep (IsS53.apart (show IsS53 w _ g293 t291 t300 from by repeat (first | (with_reducible first | exact HI293.out | apply IsS53.alloc | apply IsS53.drewN | apply IsS53.drew | apply IsS53.set_1 | refine IsS53.far ?_ NB293_301.out _ | refine IsS53.far ?_ NB293_319.out _) | exact HI293.out)) q170_ (by decide)) hk (fun _ h => h.2)) (fun _ h => h.1))
                  have n1_ := am_ (KeepBut.blk hk (g' := gb301) (o := .cells #[.int .i64 t294, .int .i64 t295, .int .i64 t296, .slice Ao25 t297.length co25] 35 (0, 0)) q149_ NB301_293.out (by simp))
                  have n2_ := am_ (KeepBut.blk hk (g' := gb319) (o := .cells #[.int .i64 0, .int .i64 0] 38 (0, 0)) q150_ NB319_293.out (by simp))
                  have n3_ := am_ (hb)
                  have n4_ := am_ (hi)
                  clear HO299
                  clear BK301
                  clear BK319
                  clear HB
                  clear HI293
                  have HO299 := n0_
                  have BK301 := n1_
                  have BK319 := n2_
                  have HB := n3_
                  have HI293 := n4_
                  clear n0_ n1_ n2_ n3_ n4_
                  (try clear hb)
                  (try clear hb2)
                  (try clear hk)
                  (try clear hi)
                  refine hK.out _ _ ⟨(blk_cell BK301.out 0).trans rfl, (blk_cell BK301.out 1).trans rfl, (blk_cell BK301.out 2).trans rfl, (blk_cell BK301.out 3).trans rfl⟩ (fun hHeld => ?_)
                  clear hK K
                  refine norm_ (a' := ?_) ?_ ?_
                  rotate_left
                  ·show Act.put _ (some 19) _ = _
                   simp only [Act.put, List.setIfInBounds_toArray, List.set_cons_zero, List.set_cons_succ, i64_w, i32_w]
                   rfl
                  refine pure_ (i := 3) (N := some 20) (v := ?_) (a' := ?_) #[true, true, true, true, false, true, true, false, false, false, true, true, true, false, true, false, true, false, false, false, false] rfl rfl (any_of HT_.out (by kernel_rfl)) (fun _ _ _ h => h) (Or.inl ⟨by rfl, ?_⟩) ?_ ?_
                  rotate_left
                  ·intro w'
                   go_simp
                   with_reducible rfl
                  rotate_left
                  ·simp only [Act.put, List.setIfInBounds_toArray, List.set_cons_zero, List.set_cons_succ, i64_w, i32_w]
                   rfl
                  exact norm_ q62_ (hJ2_16 (gb319) _ ⟨hHeld, q170_, q149_, q150_, GW319.out, GE319.out, NB293_319.out, NB319_293.out, NB301_319.out, NB319_301.out, q50_, q45_⟩)
                ·skip
                 rintro _ w29 ⟨hS_, h0_, h1_, h2_, h3_⟩
                 have n0_ : Aside0 (Kd.R (Kd.int .i64) 3 w29 w.heap.size (fun _ => True) (.slice Ao25 t297.length co25) t297) := ⟨h0_⟩
                 have n1_ : Aside0 (w29.heap[gb301]? = some (.cells #[.int .i64 t294, .int .i64 t295, .int .i64 t296, .slice Ao25 t297.length co25] 35 (0, 0))) := ⟨h1_⟩
                 have n2_ : Aside0 (IsS53 w w29 g293 t291 t303) := ⟨h2_⟩
                 have n3_ : Aside0 (Below w.heap.size w w29) := ⟨h3_⟩
                 clear HO299
                 clear BK301
                 clear HI293
                 clear HB
                 clear h0_ h1_ h2_ h3_
                 have HO299 := n0_
                 have BK301 := n1_
                 have HI293 := n2_
                 have HB := n3_
                 clear n0_ n1_ n2_ n3_
                 have hHeld : w29.cell? ⟨gb301, 0, none⟩ = some (.int .i64 t294) ∧ w29.cell? ⟨gb301, 1, none⟩ = some (.int .i64 t295) ∧ w29.cell? ⟨gb301, 2, none⟩ = some (.int .i64 t296) ∧ w29.cell? ⟨gb301, 3, none⟩ = some (.slice Ao25 t297.length co25) := hS_
                 refine norm_ (a' := ?_) ?_ ?_
                 rotate_left
                 ·simp only [putAll, Act.put, List.setIfInBounds_toArray, List.set_cons_zero, List.set_cons_succ]
                  rfl
                 refine two_ (i := 4) (j := 16) (Ni := some 21) (Nj := some 7) #[true, true, true, true, true, true, true, false, false, false, true, true, true, false, true, false, false, false, false, false, false] #[true, true, true, true, false, true, true, false, false, false, true, true, true, false, true, false, true, false, false, false, false] rfl rfl rfl rfl (two_of HT_.out (by kernel_rfl)) (by decide) (by decide) (fun K hK => ?_) (fun K hK => ?_)
                 ·skip
                  refine goes_ Try.func9 (by kernel_rfl) rfl #[.pointer (some ⟨g293, 0, none⟩), .int .i64 (wrap64 (1 + t302))] (by rfl) rfl rfl q117_ ?_
                  with_reducible refine (tilefarmgen_Tape_Weights.calls k g293 t291 t303 (wrap64 (1 + t302)) t304 t307 w _ ?side1 ?side2 A5.out).mono ?_
                  (case side1 => repeat (first | (with_reducible first | exact HI293.out | apply IsS53.alloc | apply IsS53.drewN | apply IsS53.drew | apply IsS53.set_1 | refine IsS53.far ?_ NB293_301.out _) | exact HI293.out))
                  (case side2 => repeat (first | (with_reducible first | exact HB.out | apply below_alloc | apply pw_below_drewN | apply below_drew1 | refine below_set ?_ (IsS53.ge HI293.out) | refine below_set ?_ GE301.out) | exact HB.out))
                  rintro e w30 ⟨v305, rfl, ho0, hi, hb, hk⟩
                  refine ⟨_, rfl, ?_⟩
                  have n0_ := am_ (Kd.R_mono (Kd.R_told (Kd.R_oldK (IsS53.apart (show IsS53 w _ g293 t291 t303 from by repeat (first | (with_reducible first | exact HI293.out | apply IsS53.alloc | apply IsS53.drewN | apply IsS53.drew | apply IsS53.set_1 | refine IsS53.far ?_ NB293_301.out _) | exact HI293.out)) q170_ (by decide)) hk) (Kd.R_base ho0)) (fun _ h_ => h_.1))
                  have n1_ := am_ (KeepBut.blk hk (g' := gb301) (o := .cells #[.int .i64 t294, .int .i64 t295, .int .i64 t296, .slice Ao25 t297.length co25] 35 (0, 0)) q149_ NB301_293.out (by simp))
                  have n2_ := am_ (Kd.R_lower (Kd.R_new' ho0 (Kd.R_lt q170_)) (below_size q68_))
                  have n3_ := am_ (hb)
                  have n4_ := am_ (hi)
                  clear HO299
                  clear BK301
                  clear HB
                  clear HI293
                  have HO299 := n0_
                  have BK301 := n1_
                  have HO306 := n2_
                  have HB := n3_
                  have HI293 := n4_
                  clear n0_ n1_ n2_ n3_ n4_
                  (try clear hb)
                  (try clear hb2)
                  (try clear hk)
                  (try clear hi)
                  (try clear ho0)
                  refine hK.out _ _ ⟨(blk_cell BK301.out 0).trans rfl, (blk_cell BK301.out 1).trans rfl, (blk_cell BK301.out 2).trans rfl, (blk_cell BK301.out 3).trans rfl⟩ (fun hHeld => ?_)
                  clear hK K
                  refine norm_ (a' := ?_) ?_ ?_
                  rotate_left
                  ·show Act.put _ (some 21) _ = _
                   simp only [Act.put, List.setIfInBounds_toArray, List.set_cons_zero, List.set_cons_succ, i64_w, i32_w]
                   rfl
                  exact norm_ q62_ (hJ2_4 (v305) _ ⟨hHeld, (by (with_reducible repeat (first | apply Kd.R_alloc | apply Kd.R_drewN | apply Kd.R_drew)); exact Kd.R_mono HO299.out (fun _ hk => hk.2)), (by (with_reducible repeat (first | apply Kd.R_alloc | apply Kd.R_drewN | apply Kd.R_drew)); exact Kd.R_mono HO306.out (fun _ hk => hk.2)), q149_, q81_, q68_⟩)
                 ·skip
                  refine box_step ?hg (N := 7) ?hd (cs := #[.int .i64 0, .int .i64 0]) (t := 38) ?hr ?_; (case hd => rfl); (case hg => rfl); (case hr => first | (go_simp; done) | (go_simp; rfl))
                  intro gb319 hg w30 hbox hb
                  have n0_ := am_ (Kd.R_below q170_ hb)
                  have n1_ := am_ (IsS53.below q81_ hb)
                  have n2_ := am_ (blk_below (g := gb301) (o := .cells #[.int .i64 t294, .int .i64 t295, .int .i64 t296, .slice Ao25 t297.length co25] 35 (0, 0)) q149_ hb)
                  have n3_ := am_ (below_step q68_ hb)
                  have n4_ := am_ (hbox)
                  have n5_ := am_ ((q44_ : w.heap.size ≤ gb319))
                  have n6_ := am_ ((q44_ : w.heap.size ≤ gb319))
                  have n7_ := am_ ((q21_ : gb301 ≠ gb319))
                  have n8_ := am_ ((q22_ : gb319 ≠ gb301))
                  have n9_ := am_ ((by rw [hg]; exact Nat.ne_of_lt (IsS53.lt (show IsS53 w _ g293 t291 t303 from by repeat (first | (with_reducible first | exact HI293.out | apply IsS53.alloc | apply IsS53.drewN | apply IsS53.drew | apply IsS53.set_1 | refine IsS53.far ?_ NB293_301.out _) | exact HI293.out))) : g293 ≠ gb319))
                  have n10_ := am_ ((by rw [hg]; exact Nat.ne_of_gt (IsS53.lt (show IsS53 w _ g293 t291 t303 from by repeat (first | (with_reducible first | exact HI293.out | apply IsS53.alloc | apply IsS53.drewN | apply IsS53.drew | apply IsS53.set_1 | refine IsS53.far ?_ NB293_301.out _) | exact HI293.out))) : gb319 ≠ g293))
                  clear HO299
                  clear HI293
                  clear BK301
                  clear HB
                  have HO299 := n0_
                  have HI293 := n1_
                  have BK301 := n2_
                  have HB := n3_
                  have BK319 := n4_
                  have GW319 := n5_
                  have GE319 := n6_
                  have NB301_319 := n7_
                  have NB319_301 := n8_
                  have NB293_319 := n9_
                  have NB319_293 := n10_
                  clear n0_ n1_ n2_ n3_ n4_ n5_ n6_ n7_ n8_ n9_ n10_
                  clear hb hbox hg
                  refine hK.out _ _ ⟨(blk_cell BK301.out 0).trans rfl, (blk_cell BK301.out 1).trans rfl, (blk_cell BK301.out 2).trans rfl, (blk_cell BK301.out 3).trans rfl⟩ (fun hHeld => ?_)
                  clear hK K
                  refine norm_ (a' := ?_) ?_ ?_
                  rotate_left
                  ·show Act.put _ (some 7) _ = _
                   simp only [Act.put, List.setIfInBounds_toArray, List.set_cons_zero, List.set_cons_succ, i64_w, i32_w]
                   rfl
                  exact norm_ q62_ (hJ2_16 (gb319) _ ⟨hHeld, q170_, q149_, q150_, GW319.out, GE319.out, NB293_319.out, NB319_293.out, NB301_319.out, NB319_301.out, q50_, q45_⟩)
               ·skip
                rintro gb319 w30 ⟨hS_, h0_, h1_, h2_, h3_, h4_, h5_, h6_, h7_, h8_, h9_, h10_⟩
                have n0_ : Aside0 (Kd.R (Kd.int .i64) 3 w30 w.heap.size (fun _ => True) (.slice Ao25 t297.length co25) t297) := ⟨h0_⟩
                have n1_ : Aside0 (w30.heap[gb301]? = some (.cells #[.int .i64 t294, .int .i64 t295, .int .i64 t296, .slice Ao25 t297.length co25] 35 (0, 0))) := ⟨h1_⟩
                have n2_ : Aside0 (w30.heap[gb319]? = some (.cells #[.int .i64 0, .int .i64 0] 38 (0, 0))) := ⟨h2_⟩
                have n3_ : Aside0 (w.heap.size ≤ gb319) := ⟨h3_⟩
                have n4_ : Aside0 (w.heap.size ≤ gb319) := ⟨h4_⟩
                have n5_ : Aside0 (g293 ≠ gb319) := ⟨h5_⟩
                have n6_ : Aside0 (gb319 ≠ g293) := ⟨h6_⟩
                have n7_ : Aside0 (gb301 ≠ gb319) := ⟨h7_⟩
                have n8_ : Aside0 (gb319 ≠ gb301) := ⟨h8_⟩
                have n9_ : Aside0 (IsS53 w w30 g293 t291 t303) := ⟨h9_⟩
                have n10_ : Aside0 (Below w.heap.size w w30) := ⟨h10_⟩
                clear HO299
                clear BK301
                clear HI293
                clear HB
                clear h0_ h1_ h2_ h3_ h4_ h5_ h6_ h7_ h8_ h9_ h10_
                have HO299 := n0_
                have BK301 := n1_
                have BK319 := n2_
                have GW319 := n3_
                have GE319 := n4_
                have NB293_319 := n5_
                have NB319_293 := n6_
                have NB301_319 := n7_
                have NB319_301 := n8_
                have HI293 := n9_
                have HB := n10_
                clear n0_ n1_ n2_ n3_ n4_ n5_ n6_ n7_ n8_ n9_ n10_
                have hHeld : w30.cell? ⟨gb301, 0, none⟩ = some (.int .i64 t294) ∧ w30.cell? ⟨gb301, 1, none⟩ = some (.int .i64 t295) ∧ w30.cell? ⟨gb301, 2, none⟩ = some (.int .i64 t296) ∧ w30.cell? ⟨gb301, 3, none⟩ = some (.slice Ao25 t297.length co25) := hS_
                refine norm_ (a' := ?_) ?_ ?_
                rotate_left
                ·simp only [putAll, Act.put, List.setIfInBounds_toArray, List.set_cons_zero, List.set_cons_succ]
                 rfl
                refine one_ (i := 4) (N := some 21) #[true, true, true, true, true, true, true, false, false, false, true, true, true, false, true, false, true, false, false, false, false] rfl rfl (one_of HT_.out (by kernel_rfl)) (by decide) (fun K hK => ?_)
                refine goes_ Try.func9 (by kernel_rfl) rfl #[.pointer (some ⟨g293, 0, none⟩), .int .i64 (wrap64 (1 + t302))] (by rfl) rfl rfl q117_ ?_
                with_reducible refine (tilefarmgen_Tape_Weights.calls k g293 t291 t303 (wrap64 (1 + t302)) t304 t307 w _ ?side1 ?side2 A5.out).mono ?_
                (case side1 => repeat (first | (with_reducible first | exact HI293.out | apply IsS53.alloc | apply IsS53.drewN | apply IsS53.drew | apply IsS53.set_1 | refine IsS53.far ?_ NB293_301.out _ | refine IsS53.far ?_ NB293_319.out _) | exact HI293.out))
                (case side2 => repeat (first | (with_reducible first | exact HB.out | apply below_alloc | apply pw_below_drewN | apply below_drew1 | refine below_set ?_ (IsS53.ge HI293.out) | refine below_set ?_ GE301.out | refine below_set ?_ GE319.out) | exact HB.out))
                rintro e w31 ⟨v305, rfl, ho0, hi, hb, hk⟩
                refine ⟨_, rfl, ?_⟩
                have n0_ := am_ (Kd.R_mono (Kd.R_told (Kd.R_oldK (IsS53.apart (show IsS53 w _ g293 t291 t303 from by repeat (first | (with_reducible first | exact HI293.out | apply IsS53.alloc | apply IsS53.drewN | apply IsS53.drew | apply IsS53.set_1 | refine IsS53.far ?_ NB293_301.out _ | refine IsS53.far ?_ NB293_319.out _) | exact HI293.out)) q170_ (by decide)) hk) (Kd.R_base ho0)) (fun _ h_ => h_.1))
                have n1_ := am_ (KeepBut.blk hk (g' := gb301) (o := .cells #[.int .i64 t294, .int .i64 t295, .int .i64 t296, .slice Ao25 t297.length co25] 35 (0, 0)) q149_ NB301_293.out (by simp))
                have n2_ := am_ (KeepBut.blk hk (g' := gb319) (o := .cells #[.int .i64 0, .int .i64 0] 38 (0, 0)) q150_ NB319_293.out (by simp))
                have n3_ := am_ (Kd.R_lower (Kd.R_new' ho0 (Kd.R_lt q170_)) (below_size q45_))
                have n4_ := am_ (hb)
                have n5_ := am_ (hi)
                clear HO299
                clear BK301
                clear BK319
                clear HB
                clear HI293
                have HO299 := n0_
                have BK301 := n1_
                have BK319 := n2_
                have HO306 := n3_
                have HB := n4_
                have HI293 := n5_
                clear n0_ n1_ n2_ n3_ n4_ n5_
                (try clear hb)
                (try clear hb2)
                (try clear hk)
                (try clear hi)
                (try clear ho0)
                refine hK.out _ _ ⟨(blk_cell BK301.out 0).trans rfl, (blk_cell BK301.out 1).trans rfl, (blk_cell BK301.out 2).trans rfl, (blk_cell BK301.out 3).trans rfl⟩ (fun hHeld => ?_)
                clear hK K
                refine norm_ (a' := ?_) ?_ ?_
                rotate_left
                ·show Act.put _ (some 21) _ = _
                 simp only [Act.put, List.setIfInBounds_toArray, List.set_cons_zero, List.set_cons_succ, i64_w, i32_w]
                 rfl
                exact norm_ q62_ (hJ2_4_16 (v305, gb319) _ ⟨hHeld, (by (with_reducible repeat (first | apply Kd.R_alloc | apply Kd.R_drewN | apply Kd.R_drew)); exact Kd.R_mono HO299.out (fun _ hk => hk.2)), (by (with_reducible repeat (first | apply Kd.R_alloc | apply Kd.R_drewN | apply Kd.R_drew)); exact Kd.R_mono HO306.out (fun _ hk => hk.2)), q149_, q150_, GW319.out, GE319.out, NB293_319.out, NB319_293.out, NB301_319.out, NB319_301.out, q50_, q45_⟩)
              ·skip
               rintro v305 w30 ⟨hS_, h0_, h1_, h2_, h3_, h4_⟩
               have n0_ : Aside0 (Kd.R (Kd.int .i64) 3 w30 w.heap.size (fun k_ => some k_ ≠ (v305 : Value).ownBlock) (.slice Ao25 t297.length co25) t297) := ⟨h0_⟩
               have n1_ : Aside0 (Kd.R (Kd.int .i64) 3 w30 w.heap.size (fun k_ => some k_ ≠ (.slice Ao25 t297.length co25 : Value).ownBlock) v305 t304) := ⟨h1_⟩
               have n2_ : Aside0 (w30.heap[gb301]? = some (.cells #[.int .i64 t294, .int .i64 t295, .int .i64 t296, .slice Ao25 t297.length co25] 35 (0, 0))) := ⟨h2_⟩
               have n3_ : Aside0 (IsS53 w w30 g293 t291 t307) := ⟨h3_⟩
               have n4_ : Aside0 (Below w.heap.size w w30) := ⟨h4_⟩
               clear HO299
               clear BK301
               clear HI293
               clear HB
               clear h0_ h1_ h2_ h3_ h4_
               have HO299 := n0_
               have HO306 := n1_
               have BK301 := n2_
               have HI293 := n3_
               have HB := n4_
               clear n0_ n1_ n2_ n3_ n4_
               have hHeld : w30.cell? ⟨gb301, 0, none⟩ = some (.int .i64 t294) ∧ w30.cell? ⟨gb301, 1, none⟩ = some (.int .i64 t295) ∧ w30.cell? ⟨gb301, 2, none⟩ = some (.int .i64 t296) ∧ w30.cell? ⟨gb301, 3, none⟩ = some (.slice Ao25 t297.length co25) := hS_
               refine norm_ (a' := ?_) ?_ ?_
               rotate_left
               ·simp only [putAll, Act.put, List.setIfInBounds_toArray, List.set_cons_zero, List.set_cons_succ]
                rfl
               refine two_ (i := 7) (j := 16) (Ni := some 24) (Nj := some 7) #[true, true, true, true, true, true, true, true, false, false, true, true, true, false, true, false, false, false, false, false, false] #[true, true, true, true, true, true, true, false, false, false, true, true, true, false, true, false, true, false, false, false, false] rfl rfl rfl rfl (two_of HT_.out (by kernel_rfl)) (by decide) (by decide) (fun K hK => ?_) (fun K hK => ?_)
               ·skip
                refine goes_ Try.func10 (by kernel_rfl) rfl #[.pointer (some ⟨g293, 0, none⟩), .int .i64 4] (by rfl) rfl rfl q117_ ?_
                with_reducible refine (tilefarmgen_Tape_Next.calls g293 t291 t307 4 t308 t309 w _ ?side1 ?side2 A6.out).mono ?_
                (case side1 => repeat (first | (with_reducible first | exact HI293.out | apply IsS53.alloc | apply IsS53.drewN | apply IsS53.drew | apply IsS53.set_1 | refine IsS53.far ?_ NB293_301.out _) | exact HI293.out))
                (case side2 => repeat (first | (with_reducible first | exact HB.out | apply below_alloc | apply pw_below_drewN | apply below_drew1 | refine below_set ?_ (IsS53.ge HI293.out) | refine below_set ?_ GE301.out) | exact HB.out))
                rintro e w31 ⟨rfl, hi, hb, hk⟩
                refine ⟨_, rfl, ?_⟩
                have n0_ := am_ (Kd.R_mono (Kd.R_keep (IsS53.apart (show IsS53 w _ g293 t291 t307 from by repeat (first | (with_reducible first | exact HI293.out | apply IsS53.alloc | apply IsS53.drewN | apply IsS53.drew | apply IsS53.set_1 | refine IsS53.far ?_ NB293_301.out _) | exact HI293.out)) q170_ (by decide)) hk (fun _ h => h.2)) (fun _ h => h.1))
                have n1_ := am_ (KeepBut.blk hk (g' := gb301) (o := .cells #[.int .i64 t294, .int .i64 t295, .int .i64 t296, .slice Ao25 t297.length co25] 35 (0, 0)) q149_ NB301_293.out (by simp))
                have n2_ := am_ (Kd.R_mono (Kd.R_keep (IsS53.apart (show IsS53 w _ g293 t291 t307 from by repeat (first | (with_reducible first | exact HI293.out | apply IsS53.alloc | apply IsS53.drewN | apply IsS53.drew | apply IsS53.set_1 | refine IsS53.far ?_ NB293_301.out _) | exact HI293.out)) q171_ (by decide)) hk (fun _ h => h.2)) (fun _ h => h.1))
                have n3_ := am_ (hb)
                have n4_ := am_ (hi)
                clear HO299
                clear BK301
                clear HO306
                clear HB
                clear HI293
                have HO299 := n0_
                have BK301 := n1_
                have HO306 := n2_
                have HB := n3_
                have HI293 := n4_
                clear n0_ n1_ n2_ n3_ n4_
                (try clear hb)
                (try clear hb2)
                (try clear hk)
                (try clear hi)
                refine hK.out _ _ ⟨(blk_cell BK301.out 0).trans rfl, (blk_cell BK301.out 1).trans rfl, (blk_cell BK301.out 2).trans rfl, (blk_cell BK301.out 3).trans rfl⟩ (fun hHeld => ?_)
                clear hK K
                refine norm_ (a' := ?_) ?_ ?_
                rotate_left
                ·show Act.put _ (some 24) _ = _
                 simp only [Act.put, List.setIfInBounds_toArray, List.set_cons_zero, List.set_cons_succ, i64_w, i32_w]
                 rfl
                refine pure_ (i := 8) (N := some 25) (v := ?_) (a' := ?_) #[true, true, true, true, true, true, true, true, true, false, true, true, true, false, true, false, false, false, false, false, false] rfl rfl (any_of HT_.out (by kernel_rfl)) (fun _ _ _ h => h) (Or.inl ⟨by rfl, ?_⟩) ?_ ?_
                rotate_left
                ·intro w'
                 go_simp
                 with_reducible rfl
                rotate_left
                ·simp only [Act.put, List.setIfInBounds_toArray, List.set_cons_zero, List.set_cons_succ, i64_w, i32_w]
                 rfl
                exact norm_ q62_ (hJ2_4_7 (v305) _ ⟨hHeld, q170_, q171_, q149_, q81_, q68_⟩)
               ·skip
                refine box_step ?hg (N := 7) ?hd (cs := #[.int .i64 0, .int .i64 0]) (t := 38) ?hr ?_; (case hd => rfl); (case hg => rfl); (case hr => first | (go_simp; done) | (go_simp; rfl))
                intro gb319 hg w31 hbox hb
                have n0_ := am_ (Kd.R_below q170_ hb)
                have n1_ := am_ (Kd.R_below q171_ hb)
                have n2_ := am_ (IsS53.below q81_ hb)
                have n3_ := am_ (blk_below (g := gb301) (o := .cells #[.int .i64 t294, .int .i64 t295, .int .i64 t296, .slice Ao25 t297.length co25] 35 (0, 0)) q149_ hb)
                have n4_ := am_ (below_step q68_ hb)
                have n5_ := am_ (hbox)
                have n6_ := am_ ((q44_ : w.heap.size ≤ gb319))
                have n7_ := am_ ((q44_ : w.heap.size ≤ gb319))
                have n8_ := am_ ((q21_ : gb301 ≠ gb319))
                have n9_ := am_ ((q22_ : gb319 ≠ gb301))
                have n10_ := am_ ((by rw [hg]; exact Nat.ne_of_lt (IsS53.lt (show IsS53 w _ g293 t291 t307 from by repeat (first | (with_reducible first | exact HI293.out | apply IsS53.alloc | apply IsS53.drewN | apply IsS53.drew | apply IsS53.set_1 | refine IsS53.far ?_ NB293_301.out _) | exact HI293.out))) : g293 ≠ gb319))
                have n11_ := am_ ((by rw [hg]; exact Nat.ne_of_gt (IsS53.lt (show IsS53 w _ g293 t291 t307 from by repeat (first | (with_reducible first | exact HI293.out | apply IsS53.alloc | apply IsS53.drewN | apply IsS53.drew | apply IsS53.set_1 | refine IsS53.far ?_ NB293_301.out _) | exact HI293.out))) : gb319 ≠ g293))
                clear HO299
                clear HO306
                clear HI293
                clear BK301
                clear HB
                have HO299 := n0_
                have HO306 := n1_
                have HI293 := n2_
                have BK301 := n3_
                have HB := n4_
                have BK319 := n5_
                have GW319 := n6_
                have GE319 := n7_
                have NB301_319 := n8_
                have NB319_301 := n9_
                have NB293_319 := n10_
                have NB319_293 := n11_
                clear n0_ n1_ n2_ n3_ n4_ n5_ n6_ n7_ n8_ n9_ n10_ n11_
                clear hb hbox hg
                refine hK.out _ _ ⟨(blk_cell BK301.out 0).trans rfl, (blk_cell BK301.out 1).trans rfl, (blk_cell BK301.out 2).trans rfl, (blk_cell BK301.out 3).trans rfl⟩ (fun hHeld => ?_)
                clear hK K
                refine norm_ (a' := ?_) ?_ ?_
                rotate_left
                ·show Act.put _ (some 7) _ = _
                 simp only [Act.put, List.setIfInBounds_toArray, List.set_cons_zero, List.set_cons_succ, i64_w, i32_w]
                 rfl
                exact norm_ q62_ (hJ2_4_16 (v305, gb319) _ ⟨hHeld, q170_, q171_, q149_, q150_, GW319.out, GE319.out, NB293_319.out, NB319_293.out, NB301_319.out, NB319_301.out, q50_, q45_⟩)
             ·skip
              rintro ⟨v305, gb319⟩ w31 ⟨hS_, h0_, h1_, h2_, h3_, h4_, h5_, h6_, h7_, h8_, h9_, h10_, h11_⟩
              have n0_ : Aside0 (Kd.R (Kd.int .i64) 3 w31 w.heap.size (fun k_ => some k_ ≠ (v305 : Value).ownBlock) (.slice Ao25 t297.length co25) t297) := ⟨h0_⟩
              have n1_ : Aside0 (Kd.R (Kd.int .i64) 3 w31 w.heap.size (fun k_ => some k_ ≠ (.slice Ao25 t297.length co25 : Value).ownBlock) v305 t304) := ⟨h1_⟩
              have n2_ : Aside0 (w31.heap[gb301]? = some (.cells #[.int .i64 t294, .int .i64 t295, .int .i64 t296, .slice Ao25 t297.length co25] 35 (0, 0))) := ⟨h2_⟩
              have n3_ : Aside0 (w31.heap[gb319]? = some (.cells #[.int .i64 0, .int .i64 0] 38 (0, 0))) := ⟨h3_⟩
              have n4_ : Aside0 (w.heap.size ≤ gb319) := ⟨h4_⟩
              have n5_ : Aside0 (w.heap.size ≤ gb319) := ⟨h5_⟩
              have n6_ : Aside0 (g293 ≠ gb319) := ⟨h6_⟩
              have n7_ : Aside0 (gb319 ≠ g293) := ⟨h7_⟩
              have n8_ : Aside0 (gb301 ≠ gb319) := ⟨h8_⟩
              have n9_ : Aside0 (gb319 ≠ gb301) := ⟨h9_⟩
              have n10_ : Aside0 (IsS53 w w31 g293 t291 t307) := ⟨h10_⟩
              have n11_ : Aside0 (Below w.heap.size w w31) := ⟨h11_⟩
              clear HO299
              clear BK301
              clear HI293
              clear HB
              clear h0_ h1_ h2_ h3_ h4_ h5_ h6_ h7_ h8_ h9_ h10_ h11_
              have HO299 := n0_
              have HO306 := n1_
              have BK301 := n2_
              have BK319 := n3_
              have GW319 := n4_
              have GE319 := n5_
              have NB293_319 := n6_
              have NB319_293 := n7_
              have NB301_319 := n8_
              have NB319_301 := n9_
              have HI293 := n10_
              have HB := n11_
              clear n0_ n1_ n2_ n3_ n4_ n5_ n6_ n7_ n8_ n9_ n10_ n11_
              have hHeld : w31.cell? ⟨gb301, 0, none⟩ = some (.int .i64 t294) ∧ w31.cell? ⟨gb301, 1, none⟩ = some (.int .i64 t295) ∧ w31.cell? ⟨gb301, 2, none⟩ = some (.int .i64 t296) ∧ w31.cell? ⟨gb301, 3, none⟩ = some (.slice Ao25 t297.length co25) := hS_
              refine norm_ (a' := ?_) ?_ ?_
              rotate_left
              ·simp only [putAll, Act.put, List.setIfInBounds_toArray, List.set_cons_zero, List.set_cons_succ]
               rfl
              refine one_ (i := 7) (N := some 24) #[true, true, true, true, true, true, true, true, false, false, true, true, true, false, true, false, true, false, false, false, false] rfl rfl (one_of HT_.out (by kernel_rfl)) (by decide) (fun K hK => ?_)
              refine goes_ Try.func10 (by kernel_rfl) rfl #[.pointer (some ⟨g293, 0, none⟩), .int .i64 4] (by rfl) rfl rfl q117_ ?_
              with_reducible refine (tilefarmgen_Tape_Next.calls g293 t291 t307 4 t308 t309 w _ ?side1 ?side2 A6.out).mono ?_
              (case side1 => repeat (first | (with_reducible first | exact HI293.out | apply IsS53.alloc | apply IsS53.drewN | apply IsS53.drew | apply IsS53.set_1 | refine IsS53.far ?_ NB293_301.out _ | refine IsS53.far ?_ NB293_319.out _) | exact HI293.out))
              (case side2 => repeat (first | (with_reducible first | exact HB.out | apply below_alloc | apply pw_below_drewN | apply below_drew1 | refine below_set ?_ (IsS53.ge HI293.out) | refine below_set ?_ GE301.out | refine below_set ?_ GE319.out) | exact HB.out))
              rintro e w32 ⟨rfl, hi, hb, hk⟩
              refine ⟨_, rfl, ?_⟩
              have n0_ := am_ (Kd.R_mono (Kd.R_keep (IsS53.apart (show IsS53 w _ g293 t291 t307 from by repeat (first | (with_reducible first | exact HI293.out | apply IsS53.alloc | apply IsS53.drewN | apply IsS53.drew | apply IsS53.set_1 | refine IsS53.far ?_ NB293_301.out _ | refine IsS53.far ?_ NB293_319.out _) | exact HI293.out)) q170_ (by decide)) hk (fun _ h => h.2)) (fun _ h => h.1))
              have n1_ := am_ (KeepBut.blk hk (g' := gb301) (o := .cells #[.int .i64 t294, .int .i64 t295, .int .i64 t296, .slice Ao25 t297.length co25] 35 (0, 0)) q149_ NB301_293.out (by simp))
              have n2_ := am_ (Kd.R_mono (Kd.R_keep (IsS53.apart (show IsS53 w _ g293 t291 t307 from by repeat (first | (with_reducible first | exact HI293.out | apply IsS53.alloc | apply IsS53.drewN | apply IsS53.drew | apply IsS53.set_1 | refine IsS53.far ?_ NB293_301.out _ | refine IsS53.far ?_ NB293_319.out _) | exact HI293.out)) q171_ (by decide)) hk (fun _ h => h.2)) (fun _ h => h.1))
              have n3_ := am_ (KeepBut.blk hk (g' := gb319) (o := .cells #[.int .i64 0, .int .i64 0] 38 (0, 0)) q150_ NB319_293.out (by simp))
              have n4_ := am_ (hb)
              have n5_ := am_ (hi)
              clear HO299
              clear BK301
              clear HO306
              clear BK319
              clear HB
              clear HI293
              have HO299 := n0_
              have BK301 := n1_
              have HO306 := n2_
              have BK319 := n3_
              have HB := n4_
              have HI293 := n5_
              clear n0_ n1_ n2_ n3_ n4_ n5_
              (try clear hb)
              (try clear hb2)
              (try clear hk)
              (try clear hi)
              refine hK.out _ _ ⟨(blk_cell BK301.out 0).trans rfl, (blk_cell BK301.out 1).trans rfl, (blk_cell BK301.out 2).trans rfl, (blk_cell BK301.out 3).trans rfl⟩ (fun hHeld => ?_)
              clear hK K
              refine norm_ (a' := ?_) ?_ ?_
              rotate_left
              ·show Act.put _ (some 24) _ = _
               simp only [Act.put, List.setIfInBounds_toArray, List.set_cons_zero, List.set_cons_succ, i64_w, i32_w]
               rfl
              refine pure_ (i := 8) (N := some 25) (v := ?_) (a' := ?_) #[true, true, true, true, true, true, true, true, true, false, true, true, true, false, true, false, true, false, false, false, false] rfl rfl (any_of HT_.out (by kernel_rfl)) (fun _ _ _ h => h) (Or.inl ⟨by rfl, ?_⟩) ?_ ?_
              rotate_left
              ·intro w'
               go_simp
               with_reducible rfl
              rotate_left
              ·simp only [Act.put, List.setIfInBounds_toArray, List.set_cons_zero, List.set_cons_succ, i64_w, i32_w]
               rfl
              exact norm_ q62_ (hJ2_4_7_16 (v305, gb319) _ ⟨hHeld, q170_, q171_, q149_, q150_, GW319.out, GE319.out, NB293_319.out, NB319_293.out, NB301_319.out, NB319_301.out, q50_, q45_⟩)
            ·skip
             rintro v305 w31 ⟨hS_, h0_, h1_, h2_, h3_, h4_⟩
             have n0_ : Aside0 (Kd.R (Kd.int .i64) 3 w31 w.heap.size (fun k_ => some k_ ≠ (v305 : Value).ownBlock) (.slice Ao25 t297.length co25) t297) := ⟨h0_⟩
             have n1_ : Aside0 (Kd.R (Kd.int .i64) 3 w31 w.heap.size (fun k_ => some k_ ≠ (.slice Ao25 t297.length co25 : Value).ownBlock) v305 t304) := ⟨h1_⟩
             have n2_ : Aside0 (w31.heap[gb301]? = some (.cells #[.int .i64 t294, .int .i64 t295, .int .i64 t296, .slice Ao25 t297.length co25] 35 (0, 0))) := ⟨h2_⟩
             have n3_ : Aside0 (IsS53 w w31 g293 t291 t309) := ⟨h3_⟩
             have n4_ : Aside0 (Below w.heap.size w w31) := ⟨h4_⟩
             clear HO299
             clear BK301
             clear HI293
             clear HB
             clear h0_ h1_ h2_ h3_ h4_
             have HO299 := n0_
             have HO306 := n1_
             have BK301 := n2_
             have HI293 := n3_
             have HB := n4_
             clear n0_ n1_ n2_ n3_ n4_
             have hHeld : w31.cell? ⟨gb301, 0, none⟩ = some (.int .i64 t294) ∧ w31.cell? ⟨gb301, 1, none⟩ = some (.int .i64 t295) ∧ w31.cell? ⟨gb301, 2, none⟩ = some (.int .i64 t296) ∧ w31.cell? ⟨gb301, 3, none⟩ = some (.slice Ao25 t297.length co25) := hS_
             refine norm_ (a' := ?_) ?_ ?_
             rotate_left
             ·simp only [putAll, Act.put, List.setIfInBounds_toArray, List.set_cons_zero, List.set_cons_succ]
              rfl
             refine two_ (i := 9) (j := 16) (Ni := some 26) (Nj := some 7) #[true, true, true, true, true, true, true, true, true, true, true, true, true, false, true, false, false, false, false, false, false] #[true, true, true, true, true, true, true, true, true, false, true, true, true, false, true, false, true, false, false, false, false] rfl rfl rfl rfl (two_of HT_.out (by kernel_rfl)) (by decide) (by decide) (fun K hK => ?_) (fun K hK => ?_)
             ·skip
              refine goes_ Try.func9 (by kernel_rfl) rfl #[.pointer (some ⟨g293, 0, none⟩), .int .i64 (wrap64 (1 + t308))] (by rfl) rfl rfl q117_ ?_
              with_reducible refine (tilefarmgen_Tape_Weights.calls k g293 t291 t309 (wrap64 (1 + t308)) t310 t313 w _ ?side1 ?side2 A7.out).mono ?_
              (case side1 => repeat (first | (with_reducible first | exact HI293.out | apply IsS53.alloc | apply IsS53.drewN | apply IsS53.drew | apply IsS53.set_1 | refine IsS53.far ?_ NB293_301.out _) | exact HI293.out))
              (case side2 => repeat (first | (with_reducible first | exact HB.out | apply below_alloc | apply pw_below_drewN | apply below_drew1 | refine below_set ?_ (IsS53.ge HI293.out) | refine below_set ?_ GE301.out) | exact HB.out))
              rintro e w32 ⟨v311, rfl, ho0, hi, hb, hk⟩
              refine ⟨_, rfl, ?_⟩
              have n0_ := am_ (Kd.R_mono (Kd.R_told (Kd.R_oldK (IsS53.apart (show IsS53 w _ g293 t291 t309 from by repeat (first | (with_reducible first | exact HI293.out | apply IsS53.alloc | apply IsS53.drewN | apply IsS53.drew | apply IsS53.set_1 | refine IsS53.far ?_ NB293_301.out _) | exact HI293.out)) q170_ (by decide)) hk) (Kd.R_base ho0)) (fun _ h_ => h_.1))
              have n1_ := am_ (KeepBut.blk hk (g' := gb301) (o := .cells #[.int .i64 t294, .int .i64 t295, .int .i64 t296, .slice Ao25 t297.length co25] 35 (0, 0)) q149_ NB301_293.out (by simp))
              have n2_ := am_ (Kd.R_mono (Kd.R_told (Kd.R_oldK (IsS53.apart (show IsS53 w _ g293 t291 t309 from by repeat (first | (with_reducible first | exact HI293.out | apply IsS53.alloc | apply IsS53.drewN | apply IsS53.drew | apply IsS53.set_1 | refine IsS53.far ?_ NB293_301.out _) | exact HI293.out)) q171_ (by decide)) hk) (Kd.R_base ho0)) (fun _ h_ => h_.1))
              have n3_ := am_ (Kd.R_lower (Kd.R_new' (Kd.R_new' ho0 (Kd.R_lt q170_)) (Kd.R_lt q171_)) (below_size q68_))
              have n4_ := am_ (hb)
              have n5_ := am_ (hi)
              clear HO299
              clear BK301
              clear HO306
              clear HB
              clear HI293
              have HO299 := n0_
              have BK301 := n1_
              have HO306 := n2_
              have HO312 := n3_
              have HB := n4_
              have HI293 := n5_
              clear n0_ n1_ n2_ n3_ n4_ n5_
              (try clear hb)
              (try clear hb2)
              (try clear hk)
              (try clear hi)
              (try clear ho0)
              refine hK.out _ _ ⟨(blk_cell BK301.out 0).trans rfl, (blk_cell BK301.out 1).trans rfl, (blk_cell BK301.out 2).trans rfl, (blk_cell BK301.out 3).trans rfl⟩ (fun hHeld => ?_)
              clear hK K
              refine norm_ (a' := ?_) ?_ ?_
              rotate_left
              ·show Act.put _ (some 26) _ = _
               simp only [Act.put, List.setIfInBounds_toArray, List.set_cons_zero, List.set_cons_succ, i64_w, i32_w]
               rfl
              exact norm_ q62_ (hJ2_4_7_9 (v305, v311) _ ⟨hHeld, q170_, q171_, (by (with_reducible repeat (first | apply Kd.R_alloc | apply Kd.R_drewN | apply Kd.R_drew)); exact Kd.R_mono HO312.out (fun _ hk => ⟨hk.1.2, hk.2⟩)), q149_, q81_, q68_⟩)
             ·skip
              refine box_step ?hg (N := 7) ?hd (cs := #[.int .i64 0, .int .i64 0]) (t := 38) ?hr ?_; (case hd => rfl); (case hg => rfl); (case hr => first | (go_simp; done) | (go_simp; rfl))
              intro gb319 hg w32 hbox hb
              have n0_ := am_ (Kd.R_below q170_ hb)
              have n1_ := am_ (Kd.R_below q171_ hb)
              have n2_ := am_ (IsS53.below q81_ hb)
              have n3_ := am_ (blk_below (g := gb301) (o := .cells #[.int .i64 t294, .int .i64 t295, .int .i64 t296, .slice Ao25 t297.length co25] 35 (0, 0)) q149_ hb)
              have n4_ := am_ (below_step q68_ hb)
              have n5_ := am_ (hbox)
              have n6_ := am_ ((q44_ : w.heap.size ≤ gb319))
              have n7_ := am_ ((q44_ : w.heap.size ≤ gb319))
              have n8_ := am_ ((q21_ : gb301 ≠ gb319))
              have n9_ := am_ ((q22_ : gb319 ≠ gb301))
              have n10_ := am_ ((by rw [hg]; exact Nat.ne_of_lt (IsS53.lt (show IsS53 w _ g293 t291 t309 from by repeat (first | (with_reducible first | exact HI293.out | apply IsS53.alloc | apply IsS53.drewN | apply IsS53.drew | apply IsS53.set_1 | refine IsS53.far ?_ NB293_301.out _) | exact HI293.out))) : g293 ≠ gb319))
              have n11_ := am_ ((by rw [hg]; exact Nat.ne_of_gt (IsS53.lt (show IsS53 w _ g293 t291 t309 from by repeat (first | (with_reducible first | exact HI293.out | apply IsS53.alloc | apply IsS53.drewN | apply IsS53.drew | apply IsS53.set_1 | refine IsS53.far ?_ NB293_301.out _) | exact HI293.out))) : gb319 ≠ g293))
              clear HO299
              clear HO306
              clear HI293
              clear BK301
              clear HB
              have HO299 := n0_
              have HO306 := n1_
              have HI293 := n2_
              have BK301 := n3_
              have HB := n4_
              have BK319 := n5_
              have GW319 := n6_
              have GE319 := n7_
              have NB301_319 := n8_
              have NB319_301 := n9_
              have NB293_319 := n10_
              have NB319_293 := n11_
              clear n0_ n1_ n2_ n3_ n4_ n5_ n6_ n7_ n8_ n9_ n10_ n11_
              clear hb hbox hg
              refine hK.out _ _ ⟨(blk_cell BK301.out 0).trans rfl, (blk_cell BK301.out 1).trans rfl, (blk_cell BK301.out 2).trans rfl, (blk_cell BK301.out 3).trans rfl⟩ (fun hHeld => ?_)
              clear hK K
              refine norm_ (a' := ?_) ?_ ?_
              rotate_left
              ·show Act.put _ (some 7) _ = _
               simp only [Act.put, List.setIfInBounds_toArray, List.set_cons_zero, List.set_cons_succ, i64_w, i32_w]
               rfl
              exact norm_ q62_ (hJ2_4_7_16 (v305, gb319) _ ⟨hHeld, q170_, q171_, q149_, q150_, GW319.out, GE319.out, NB293_319.out, NB319_293.out, NB301_319.out, NB319_301.out, q50_, q45_⟩)
           ·skip
            rintro ⟨v305, gb319⟩ w32 ⟨hS_, h0_, h1_, h2_, h3_, h4_, h5_, h6_, h7_, h8_, h9_, h10_, h11_⟩
            have n0_ : Aside0 (Kd.R (Kd.int .i64) 3 w32 w.heap.size (fun k_ => some k_ ≠ (v305 : Value).ownBlock) (.slice Ao25 t297.length co25) t297) := ⟨h0_⟩
            have n1_ : Aside0 (Kd.R (Kd.int .i64) 3 w32 w.heap.size (fun k_ => some k_ ≠ (.slice Ao25 t297.length co25 : Value).ownBlock) v305 t304) := ⟨h1_⟩
            have n2_ : Aside0 (w32.heap[gb301]? = some (.cells #[.int .i64 t294, .int .i64 t295, .int .i64 t296, .slice Ao25 t297.length co25] 35 (0, 0))) := ⟨h2_⟩
            have n3_ : Aside0 (w32.heap[gb319]? = some (.cells #[.int .i64 0, .int .i64 0] 38 (0, 0))) := ⟨h3_⟩
            have n4_ : Aside0 (w.heap.size ≤ gb319) := ⟨h4_⟩
            have n5_ : Aside0 (w.heap.size ≤ gb319) := ⟨h5_⟩
            have n6_ : Aside0 (g293 ≠ gb319) := ⟨h6_⟩
            have n7_ : Aside0 (gb319 ≠ g293) := ⟨h7_⟩
            have n8_ : Aside0 (gb301 ≠ gb319) := ⟨h8_⟩
            have n9_ : Aside0 (gb319 ≠ gb301) := ⟨h9_⟩
            have n10_ : Aside0 (IsS53 w w32 g293 t291 t309) := ⟨h10_⟩
            have n11_ : Aside0 (Below w.heap.size w w32) := ⟨h11_⟩
            clear HO299
            clear BK301
            clear HI293
            clear HB
            clear h0_ h1_ h2_ h3_ h4_ h5_ h6_ h7_ h8_ h9_ h10_ h11_
            have HO299 := n0_
            have HO306 := n1_
            have BK301 := n2_
            have BK319 := n3_
            have GW319 := n4_
            have GE319 := n5_
            have NB293_319 := n6_
            have NB319_293 := n7_
            have NB301_319 := n8_
            have NB319_301 := n9_
            have HI293 := n10_
            have HB := n11_
            clear n0_ n1_ n2_ n3_ n4_ n5_ n6_ n7_ n8_ n9_ n10_ n11_
            have hHeld : w32.cell? ⟨gb301, 0, none⟩ = some (.int .i64 t294) ∧ w32.cell? ⟨gb301, 1, none⟩ = some (.int .i64 t295) ∧ w32.cell? ⟨gb301, 2, none⟩ = some (.int .i64 t296) ∧ w32.cell? ⟨gb301, 3, none⟩ = some (.slice Ao25 t297.length co25) := hS_
            refine norm_ (a' := ?_) ?_ ?_
            rotate_left
            ·simp only [putAll, Act.put, List.setIfInBounds_toArray, List.set_cons_zero, List.set_cons_succ]
             rfl
            refine one_ (i := 9) (N := some 26) #[true, true, true, true, true, true, true, true, true, true, true, true, true, false, true, false, true, false, false, false, false] rfl rfl (one_of HT_.out (by kernel_rfl)) (by decide) (fun K hK => ?_)
            refine goes_ Try.func9 (by kernel_rfl) rfl #[.pointer (some ⟨g293, 0, none⟩), .int .i64 (wrap64 (1 + t308))] (by rfl) rfl rfl q117_ ?_
            with_reducible refine (tilefarmgen_Tape_Weights.calls k g293 t291 t309 (wrap64 (1 + t308)) t310 t313 w _ ?side1 ?side2 A7.out).mono ?_
            (case side1 => repeat (first | (with_reducible first | exact HI293.out | apply IsS53.alloc | apply IsS53.drewN | apply IsS53.drew | apply IsS53.set_1 | refine IsS53.far ?_ NB293_301.out _ | refine IsS53.far ?_ NB293_319.out _) | exact HI293.out))
            (case side2 => repeat (first | (with_reducible first | exact HB.out | apply below_alloc | apply pw_below_drewN | apply below_drew1 | refine below_set ?_ (IsS53.ge HI293.out) | refine below_set ?_ GE301.out | refine below_set ?_ GE319.out) | exact HB.out))
            rintro e w33 ⟨v311, rfl, ho0, hi, hb, hk⟩
            refine ⟨_, rfl, ?_⟩
            have n0_ := am_ (Kd.R_mono (Kd.R_told (Kd.R_oldK (IsS53.apart (show IsS53 w _ g293 t291 t309 from by repeat (first | (with_reducible first | exact HI293.out | apply IsS53.alloc | apply IsS53.drewN | apply IsS53.drew | apply IsS53.set_1 | refine IsS53.far ?_ NB293_301.out _ | refine IsS53.far ?_ NB293_319.out _) | exact HI293.out)) q170_ (by decide)) hk) (Kd.R_base ho0)) (fun _ h_ => h_.1))
            have n1_ := am_ (KeepBut.blk hk (g' := gb301) (o := .cells #[.int .i64 t294, .int .i64 t295, .int .i64 t296, .slice Ao25 t297.length co25] 35 (0, 0)) q149_ NB301_293.out (by simp))
            have n2_ := am_ (Kd.R_mono (Kd.R_told (Kd.R_oldK (IsS53.apart (show IsS53 w _ g293 t291 t309 from by repeat (first | (with_reducible first | exact HI293.out | apply IsS53.alloc | apply IsS53.drewN | apply IsS53.drew | apply IsS53.set_1 | refine IsS53.far ?_ NB293_301.out _ | refine IsS53.far ?_ NB293_319.out _) | exact HI293.out)) q171_ (by decide)) hk) (Kd.R_base ho0)) (fun _ h_ => h_.1))
            have n3_ := am_ (KeepBut.blk hk (g' := gb319) (o := .cells #[.int .i64 0, .int .i64 0] 38 (0, 0)) q150_ NB319_293.out (by simp))
            have n4_ := am_ (Kd.R_lower (Kd.R_new' (Kd.R_new' ho0 (Kd.R_lt q170_)) (Kd.R_lt q171_)) (below_size q45_))
            have n5_ := am_ (hb)
            have n6_ := am_ (hi)
            clear HO299
            clear BK301
            clear HO306
            clear BK319
            clear HB
            clear HI293
            have HO299 := n0_
            have BK301 := n1_
            have HO306 := n2_
            have BK319 := n3_
            have HO312 := n4_
            have HB := n5_
            have HI293 := n6_
            clear n0_ n1_ n2_ n3_ n4_ n5_ n6_
            (try clear hb)
            (try clear hb2)
            (try clear hk)
            (try clear hi)
            (try clear ho0)
            refine hK.out _ _ ⟨(blk_cell BK301.out 0).trans rfl, (blk_cell BK301.out 1).trans rfl, (blk_cell BK301.out 2).trans rfl, (blk_cell BK301.out 3).trans rfl⟩ (fun hHeld => ?_)
            clear hK K
            refine norm_ (a' := ?_) ?_ ?_
            rotate_left
            ·show Act.put _ (some 26) _ = _
             simp only [Act.put, List.setIfInBounds_toArray, List.set_cons_zero, List.set_cons_succ, i64_w, i32_w]
             rfl
            exact norm_ q62_ (hJ2_4_7_9_16 (v305, v311, gb319) _ ⟨hHeld, q170_, q171_, (by (with_reducible repeat (first | apply Kd.R_alloc | apply Kd.R_drewN | apply Kd.R_drew)); exact Kd.R_mono HO312.out (fun _ hk => ⟨hk.1.2, hk.2⟩)), q149_, q150_, GW319.out, GE319.out, NB293_319.out, NB319_293.out, NB301_319.out, NB319_301.out, q50_, q45_⟩)
          ·skip
           rintro ⟨v305, v311⟩ w32 ⟨hS_, h0_, h1_, h2_, h3_, h4_, h5_⟩
           have n0_ : Aside0 (Kd.R (Kd.int .i64) 3 w32 w.heap.size (fun k_ => some k_ ≠ (v305 : Value).ownBlock ∧ some k_ ≠ (v311 : Value).ownBlock) (.slice Ao25 t297.length co25) t297) := ⟨h0_⟩
           have n1_ : Aside0 (Kd.R (Kd.int .i64) 3 w32 w.heap.size (fun k_ => some k_ ≠ (.slice Ao25 t297.length co25 : Value).ownBlock ∧ some k_ ≠ (v311 : Value).ownBlock) v305 t304) := ⟨h1_⟩
           have n2_ : Aside0 (Kd.R (Kd.int .i64) 3 w32 w.heap.size (fun k_ => some k_ ≠ (.slice Ao25 t297.length co25 : Value).ownBlock ∧ some k_ ≠ (v305 : Value).ownBlock) v311 t310) := ⟨h2_⟩
           have n3_ : Aside0 (w32.heap[gb301]? = some (.cells #[.int .i64 t294, .int .i64 t295, .int .i64 t296, .slice Ao25 t297.length co25] 35 (0, 0))) := ⟨h3_⟩
           have n4_ : Aside0 (IsS53 w w32 g293 t291 t313) := ⟨h4_⟩
           have n5_ : Aside0 (Below w.heap.size w w32) := ⟨h5_⟩
           clear HO299
           clear BK301
           clear HI293
           clear HB
           clear h0_ h1_ h2_ h3_ h4_ h5_
           have HO299 := n0_
           have HO306 := n1_
           have HO312 := n2_
           have BK301 := n3_
           have HI293 := n4_
           have HB := n5_
           clear n0_ n1_ n2_ n3_ n4_ n5_
           have hHeld : w32.cell? ⟨gb301, 0, none⟩ = some (.int .i64 t294) ∧ w32.cell? ⟨gb301, 1, none⟩ = some (.int .i64 t295) ∧ w32.cell? ⟨gb301, 2, none⟩ = some (.int .i64 t296) ∧ w32.cell? ⟨gb301, 3, none⟩ = some (.slice Ao25 t297.length co25) := hS_
           refine norm_ (a' := ?_) ?_ ?_
           rotate_left
           ·simp only [putAll, Act.put, List.setIfInBounds_toArray, List.set_cons_zero, List.set_cons_succ]
            rfl
           refine two_ (i := 13) (j := 16) (Ni := some 30) (Nj := some 7) #[true, true, true, true, true, true, true, true, true, true, true, true, true, true, true, false, false, false, false, false, false] #[true, true, true, true, true, true, true, true, true, true, true, true, true, false, true, false, true, false, false, false, false] rfl rfl rfl rfl (two_of HT_.out (by kernel_rfl)) (by decide) (by decide) (fun K hK => ?_) (fun K hK => ?_)
           ·skip
            refine goes_ Try.func16 (by kernel_rfl) rfl #[.pointer (some ⟨g293, 0, none⟩), .int .i64 t296] (by rfl) rfl rfl q117_ ?_
            with_reducible refine (tilefarmgen_Tape_Edge.calls g293 t291 t313 t296 t314 t315 t316 w _ ?side1 ?side2 A8.out).mono ?_
            (case side1 => repeat (first | (with_reducible first | exact HI293.out | apply IsS53.alloc | apply IsS53.drewN | apply IsS53.drew | apply IsS53.set_1 | refine IsS53.far ?_ NB293_301.out _) | exact HI293.out))
            (case side2 => repeat (first | (with_reducible first | exact HB.out | apply below_alloc | apply pw_below_drewN | apply below_drew1 | refine below_set ?_ (IsS53.ge HI293.out) | refine below_set ?_ GE301.out) | exact HB.out))
            rintro e w33 ⟨rfl, hi, hb, hk⟩
            refine ⟨_, rfl, ?_⟩
            have n0_ := am_ (Kd.R_mono (Kd.R_keep (IsS53.apart (show IsS53 w _ g293 t291 t313 from by repeat (first | (with_reducible first | exact HI293.out | apply IsS53.alloc | apply IsS53.drewN | apply IsS53.drew | apply IsS53.set_1 | refine IsS53.far ?_ NB293_301.out _) | exact HI293.out)) q170_ (by decide)) hk (fun _ h => h.2)) (fun _ h => h.1))
            have n1_ := am_ (KeepBut.blk hk (g' := gb301) (o := .cells #[.int .i64 t294, .int .i64 t295, .int .i64 t296, .slice Ao25 t297.length co25] 35 (0, 0)) q149_ NB301_293.out (by simp))
            have n2_ := am_ (Kd.R_mono (Kd.R_keep (IsS53.apart (show IsS53 w _ g293 t291 t313 from by repeat (first | (with_reducible first | exact HI293.out | apply IsS53.alloc | apply IsS53.drewN | apply IsS53.drew | apply IsS53.set_1 | refine IsS53.far ?_ NB293_301.out _) | exact HI293.out)) q171_ (by decide)) hk (fun _ h => h.2)) (fun _ h => h.1))
            have n3_ := am_ (Kd.R_mono (Kd.R_keep (IsS53.apart (show IsS53 w _ g293 t291 t313 from by repeat (first | (with_reducible first | exact HI293.out | apply IsS53.alloc | apply IsS53.drewN | apply IsS53.drew | apply IsS53.set_1 | refine IsS53.far ?_ NB293_301.out _) | exact HI293.out)) q172_ (by decide)) hk (fun _ h => h.2)) (fun _ h => h.1))
            have n4_ := am_ (hb)
            have n5_ := am_ (hi)
            clear HO299
            clear BK301
            clear HO306
            clear HO312
            clear HB
            clear HI293
            have HO299 := n0_
            have BK301 := n1_
            have HO306 := n2_
            have HO312 := n3_
            have HB := n4_
            have HI293 := n5_
            clear n0_ n1_ n2_ n3_ n4_ n5_
            (try clear hb)
            (try clear hb2)
            (try clear hk)
            (try clear hi)
            refine hK.out _ _ ⟨(blk_cell BK301.out 0).trans rfl, (blk_cell BK301.out 1).trans rfl, (blk_cell BK301.out 2).trans rfl, (blk_cell BK301.out 3).trans rfl⟩ (fun hHeld => ?_)
            clear hK K
            refine norm_ (a' := ?_) ?_ ?_
            rotate_left
            ·show Act.put _ (some 30) _ = _
             simp only [Act.put, List.setIfInBounds_toArray, List.set_cons_zero, List.set_cons_succ, i64_w, i32_w]
             rfl
            exact norm_ q62_ (hJ2_4_7_9_13 (v305, v311) _ ⟨hHeld, q170_, q171_, q172_, q149_, q81_, q68_⟩)
           ·skip
            refine box_step ?hg (N := 7) ?hd (cs := #[.int .i64 0, .int .i64 0]) (t := 38) ?hr ?_; (case hd => rfl); (case hg => rfl); (case hr => first | (go_simp; done) | (go_simp; rfl))
            intro gb319 hg w33 hbox hb
            have n0_ := am_ (Kd.R_below q170_ hb)
            have n1_ := am_ (Kd.R_below q171_ hb)
            have n2_ := am_ (Kd.R_below q172_ hb)
            have n3_ := am_ (IsS53.below q81_ hb)
            have n4_ := am_ (blk_below (g := gb301) (o := .cells #[.int .i64 t294, .int .i64 t295, .int .i64 t296, .slice Ao25 t297.length co25] 35 (0, 0)) q149_ hb)
            have n5_ := am_ (below_step q68_ hb)
            have n6_ := am_ (hbox)
            have n7_ := am_ ((q44_ : w.heap.size ≤ gb319))
            have n8_ := am_ ((q44_ : w.heap.size ≤ gb319))
            have n9_ := am_ ((q21_ : gb301 ≠ gb319))
            have n10_ := am_ ((q22_ : gb319 ≠ gb301))
            have n11_ := am_ ((by rw [hg]; exact Nat.ne_of_lt (IsS53.lt (show IsS53 w _ g293 t291 t313 from by repeat (first | (with_reducible first | exact HI293.out | apply IsS53.alloc | apply IsS53.drewN | apply IsS53.drew | apply IsS53.set_1 | refine IsS53.far ?_ NB293_301.out _) | exact HI293.out))) : g293 ≠ gb319))
            have n12_ := am_ ((by rw [hg]; exact Nat.ne_of_gt (IsS53.lt (show IsS53 w _ g293 t291 t313 from by repeat (first | (with_reducible first | exact HI293.out | apply IsS53.alloc | apply IsS53.drewN | apply IsS53.drew | apply IsS53.set_1 | refine IsS53.far ?_ NB293_301.out _) | exact HI293.out))) : gb319 ≠ g293))
            clear HO299
            clear HO306
            clear HO312
            clear HI293
            clear BK301
            clear HB
            have HO299 := n0_
            have HO306 := n1_
            have HO312 := n2_
            have HI293 := n3_
            have BK301 := n4_
            have HB := n5_
            have BK319 := n6_
            have GW319 := n7_
            have GE319 := n8_
            have NB301_319 := n9_
            have NB319_301 := n10_
            have NB293_319 := n11_
            have NB319_293 := n12_
            clear n0_ n1_ n2_ n3_ n4_ n5_ n6_ n7_ n8_ n9_ n10_ n11_ n12_
            clear hb hbox hg
            refine hK.out _ _ ⟨(blk_cell BK301.out 0).trans rfl, (blk_cell BK301.out 1).trans rfl, (blk_cell BK301.out 2).trans rfl, (blk_cell BK301.out 3).trans rfl⟩ (fun hHeld => ?_)
            clear hK K
            refine norm_ (a' := ?_) ?_ ?_
            rotate_left
            ·show Act.put _ (some 7) _ = _
             simp only [Act.put, List.setIfInBounds_toArray, List.set_cons_zero, List.set_cons_succ, i64_w, i32_w]
             rfl
            exact norm_ q62_ (hJ2_4_7_9_16 (v305, v311, gb319) _ ⟨hHeld, q170_, q171_, q172_, q149_, q150_, GW319.out, GE319.out, NB293_319.out, NB319_293.out, NB301_319.out, NB319_301.out, q50_, q45_⟩)
         ·skip
          rintro ⟨v305, v311, gb319⟩ w33 ⟨hS_, h0_, h1_, h2_, h3_, h4_, h5_, h6_, h7_, h8_, h9_, h10_, h11_, h12_⟩
          have n0_ : Aside0 (Kd.R (Kd.int .i64) 3 w33 w.heap.size (fun k_ => some k_ ≠ (v305 : Value).ownBlock ∧ some k_ ≠ (v311 : Value).ownBlock) (.slice Ao25 t297.length co25) t297) := ⟨h0_⟩
          have n1_ : Aside0 (Kd.R (Kd.int .i64) 3 w33 w.heap.size (fun k_ => some k_ ≠ (.slice Ao25 t297.length co25 : Value).ownBlock ∧ some k_ ≠ (v311 : Value).ownBlock) v305 t304) := ⟨h1_⟩
          have n2_ : Aside0 (Kd.R (Kd.int .i64) 3 w33 w.heap.size (fun k_ => some k_ ≠ (.slice Ao25 t297.length co25 : Value).ownBlock ∧ some k_ ≠ (v305 : Value).ownBlock) v311 t310) := ⟨h2_⟩
          have n3_ : Aside0 (w33.heap[gb301]? = some (.cells #[.int .i64 t294, .int .i64 t295, .int .i64 t296, .slice Ao25 t297.length co25] 35 (0, 0))) := ⟨h3_⟩
          have n4_ : Aside0 (w33.heap[gb319]? = some (.cells #[.int .i64 0, .int .i64 0] 38 (0, 0))) := ⟨h4_⟩
          have n5_ : Aside0 (w.heap.size ≤ gb319) := ⟨h5_⟩
          have n6_ : Aside0 (w.heap.size ≤ gb319) := ⟨h6_⟩
          have n7_ : Aside0 (g293 ≠ gb319) := ⟨h7_⟩
          have n8_ : Aside0 (gb319 ≠ g293) := ⟨h8_⟩
          have n9_ : Aside0 (gb301 ≠ gb319) := ⟨h9_⟩
          have n10_ : Aside0 (gb319 ≠ gb301) := ⟨h10_⟩
          have n11_ : Aside0 (IsS53 w w33 g293 t291 t313) := ⟨h11_⟩
          have n12_ : Aside0 (Below w.heap.size w w33) := ⟨h12_⟩
          clear HO299
          clear BK301
          clear HI293
          clear HB
          clear h0_ h1_ h2_ h3_ h4_ h5_ h6_ h7_ h8_ h9_ h10_ h11_ h12_
          have HO299 := n0_
          have HO306 := n1_
          have HO312 := n2_
          have BK301 := n3_
          have BK319 := n4_
          have GW319 := n5_
          have GE319 := n6_
          have NB293_319 := n7_
          have NB319_293 := n8_
          have NB301_319 := n9_
          have NB319_301 := n10_
          have HI293 := n11_
          have HB := n12_
          clear n0_ n1_ n2_ n3_ n4_ n5_ n6_ n7_ n8_ n9_ n10_ n11_ n12_
          have hHeld : w33.cell? ⟨gb301, 0, none⟩ = some (.int .i64 t294) ∧ w33.cell? ⟨gb301, 1, none⟩ = some (.int .i64 t295) ∧ w33.cell? ⟨gb301, 2, none⟩ = some (.int .i64 t296) ∧ w33.cell? ⟨gb301, 3, none⟩ = some (.slice Ao25 t297.length co25) := hS_
          refine norm_ (a' := ?_) ?_ ?_
          rotate_left
          ·simp only [putAll, Act.put, List.setIfInBounds_toArray, List.set_cons_zero, List.set_cons_succ]
           rfl
          refine one_ (i := 13) (N := some 30) #[true, true, true, true, true, true, true, true, true, true, true, true, true, true, true, false, true, false, false, false, false] rfl rfl (one_of HT_.out (by kernel_rfl)) (by decide) (fun K hK => ?_)
          refine goes_ Try.func16 (by kernel_rfl) rfl #[.pointer (some ⟨g293, 0, none⟩), .int .i64 t296] (by rfl) rfl rfl q117_ ?_
          with_reducible refine (tilefarmgen_Tape_Edge.calls g293 t291 t313 t296 t314 t315 t316 w _ ?side1 ?side2 A8.out).mono ?_
          (case side1 => repeat (first | (with_reducible first | exact HI293.out | apply IsS53.alloc | apply IsS53.drewN | apply IsS53.drew | apply IsS53.set_1 | refine IsS53.far ?_ NB293_301.out _ | refine IsS53.far ?_ NB293_319.out _) | exact HI293.out))
          (case side2 => repeat (first | (with_reducible first | exact HB.out | apply below_alloc | apply pw_below_drewN | apply below_drew1 | refine below_set ?_ (IsS53.ge HI293.out) | refine below_set ?_ GE301.out | refine below_set ?_ GE319.out) | exact HB.out))
          rintro e w34 ⟨rfl, hi, hb, hk⟩
          refine ⟨_, rfl, ?_⟩
          have n0_ := am_ (Kd.R_mono (Kd.R_keep (IsS53.apart (show IsS53 w _ g293 t291 t313 from by repeat (first | (with_reducible first | exact HI293.out | apply IsS53.alloc | apply IsS53.drewN | apply IsS53.drew | apply IsS53.set_1 | refine IsS53.far ?_ NB293_301.out _ | refine IsS53.far ?_ NB293_319.out _) | exact HI293.out)) q170_ (by decide)) hk (fun _ h => h.2)) (fun _ h => h.1))
          have n1_ := am_ (KeepBut.blk hk (g' := gb301) (o := .cells #[.int .i64 t294, .int .i64 t295, .int .i64 t296, .slice Ao25 t297.length co25] 35 (0, 0)) q149_ NB301_293.out (by simp))
          have n2_ := am_ (Kd.R_mono (Kd.R_keep (IsS53.apart (show IsS53 w _ g293 t291 t313 from by repeat (first | (with_reducible first | exact HI293.out | apply IsS53.alloc | apply IsS53.drewN | apply IsS53.drew | apply IsS53.set_1 | refine IsS53.far ?_ NB293_301.out _ | refine IsS53.far ?_ NB293_319.out _) | exact HI293.out)) q171_ (by decide)) hk (fun _ h => h.2)) (fun _ h => h.1))
          have n3_ := am_ (Kd.R_mono (Kd.R_keep (IsS53.apart (show IsS53 w _ g293 t291 t313 from by repeat (first | (with_reducible first | exact HI293.out | apply IsS53.alloc | apply IsS53.drewN | apply IsS53.drew | apply IsS53.set_1 | refine IsS53.far ?_ NB293_301.out _ | refine IsS53.far ?_ NB293_319.out _) | exact HI293.out)) q172_ (by decide)) hk (fun _ h => h.2)) (fun _ h => h.1))
          have n4_ := am_ (KeepBut.blk hk (g' := gb319) (o := .cells #[.int .i64 0, .int .i64 0] 38 (0, 0)) q150_ NB319_293.out (by simp))
          have n5_ := am_ (hb)
          have n6_ := am_ (hi)
          clear HO299
          clear BK301
          clear HO306
          clear HO312
          clear BK319
          clear HB
          clear HI293
          have HO299 := n0_
          have BK301 := n1_
          have HO306 := n2_
          have HO312 := n3_
          have BK319 := n4_
          have HB := n5_
          have HI293 := n6_
          clear n0_ n1_ n2_ n3_ n4_ n5_ n6_
          (try clear hb)
          (try clear hb2)
          (try clear hk)
          (try clear hi)
          refine hK.out _ _ ⟨(blk_cell BK301.out 0).trans rfl, (blk_cell BK301.out 1).trans rfl, (blk_cell BK301.out 2).trans rfl, (blk_cell BK301.out 3).trans rfl⟩ (fun hHeld => ?_)
          clear hK K
          refine norm_ (a' := ?_) ?_ ?_
          rotate_left
          ·show Act.put _ (some 30) _ = _
           simp only [Act.put, List.setIfInBounds_toArray, List.set_cons_zero, List.set_cons_succ, i64_w, i32_w]
           rfl
          exact norm_ q62_ (hJ2_4_7_9_13_16 (v305, v311, gb319) _ ⟨hHeld, q170_, q171_, q172_, q149_, q150_, GW319.out, GE319.out, NB293_319.out, NB319_293.out, NB301_319.out, NB319_301.out, q50_, q45_⟩)
        ·skip
         rintro ⟨v305, v311⟩ w33 ⟨hS_, h0_, h1_, h2_, h3_, h4_, h5_⟩
         have n0_ : Aside0 (Kd.R (Kd.int .i64) 3 w33 w.heap.size (fun k_ => some k_ ≠ (v305 : Value).ownBlock ∧ some k_ ≠ (v311 : Value).ownBlock) (.slice Ao25 t297.length co25) t297) := ⟨h0_⟩
         have n1_ : Aside0 (Kd.R (Kd.int .i64) 3 w33 w.heap.size (fun k_ => some k_ ≠ (.slice Ao25 t297.length co25 : Value).ownBlock ∧ some k_ ≠ (v311 : Value).ownBlock) v305 t304) := ⟨h1_⟩
         have n2_ : Aside0 (Kd.R (Kd.int .i64) 3 w33 w.heap.size (fun k_ => some k_ ≠ (.slice Ao25 t297.length co25 : Value).ownBlock ∧ some k_ ≠ (v305 : Value).ownBlock) v311 t310) := ⟨h2_⟩
         have n3_ : Aside0 (w33.heap[gb301]? = some (.cells #[.int .i64 t294, .int .i64 t295, .int .i64 t296, .slice Ao25 t297.length co25] 35 (0, 0))) := ⟨h3_⟩
         have n4_ : Aside0 (IsS53 w w33 g293 t291 t316) := ⟨h4_⟩
         have n5_ : Aside0 (Below w.heap.size w w33) := ⟨h5_⟩
         clear HO299
         clear BK301
         clear HI293
         clear HB
         clear h0_ h1_ h2_ h3_ h4_ h5_
         have HO299 := n0_
         have HO306 := n1_
         have HO312 := n2_
         have BK301 := n3_
         have HI293 := n4_
         have HB := n5_
         clear n0_ n1_ n2_ n3_ n4_ n5_
         have hHeld : w33.cell? ⟨gb301, 0, none⟩ = some (.int .i64 t294) ∧ w33.cell? ⟨gb301, 1, none⟩ = some (.int .i64 t295) ∧ w33.cell? ⟨gb301, 2, none⟩ = some (.int .i64 t296) ∧ w33.cell? ⟨gb301, 3, none⟩ = some (.slice Ao25 t297.length co25) := hS_
         refine norm_ (a' := ?_) ?_ ?_
         rotate_left
         ·simp only [putAll, Act.put, List.setIfInBounds_toArray, List.set_cons_zero, List.set_cons_succ]
          rfl
         refine two_ (i := 15) (j := 16) (Ni := some 32) (Nj := some 7) #[true, true, true, true, true, true, true, true, true, true, true, true, true, true, true, true, false, false, false, false, false] #[true, true, true, true, true, true, true, true, true, true, true, true, true, true, true, false, true, false, false, false, false] rfl rfl rfl rfl (two_of HT_.out (by kernel_rfl)) (by decide) (by decide) (fun K hK => ?_) (fun K hK => ?_)
         ·skip
          refine goes_ Try.func10 (by kernel_rfl) rfl #[.pointer (some ⟨g293, 0, none⟩), .int .i64 5] (by rfl) rfl rfl q117_ ?_
          with_reducible refine (tilefarmgen_Tape_Next.calls g293 t291 t316 5 t317 t318 w _ ?side1 ?side2 A9.out).mono ?_
          (case side1 => repeat (first | (with_reducible first | exact HI293.out | apply IsS53.alloc | apply IsS53.drewN | apply IsS53.drew | apply IsS53.set_1 | refine IsS53.far ?_ NB293_301.out _) | exact HI293.out))
          (case side2 => repeat (first | (with_reducible first | exact HB.out | apply below_alloc | apply pw_below_drewN | apply below_drew1 | refine below_set ?_ (IsS53.ge HI293.out) | refine below_set ?_ GE301.out) | exact HB.out))
          rintro e w34 ⟨rfl, hi, hb, hk⟩
          refine ⟨_, rfl, ?_⟩
          have n0_ := am_ (Kd.R_mono (Kd.R_keep (IsS53.apart (show IsS53 w _ g293 t291 t316 from by repeat (first | (with_reducible first | exact HI293.out | apply IsS53.alloc | apply IsS53.drewN | apply IsS53.drew | apply IsS53.set_1 | refine IsS53.far ?_ NB293_301.out _) | exact HI293.out)) q170_ (by decide)) hk (fun _ h => h.2)) (fun _ h => h.1))
          have n1_ := am_ (KeepBut.blk hk (g' := gb301) (o := .cells #[.int .i64 t294, .int .i64 t295, .int .i64 t296, .slice Ao25 t297.length co25] 35 (0, 0)) q149_ NB301_293.out (by simp))
          have n2_ := am_ (Kd.R_mono (Kd.R_keep (IsS53.apart (show IsS53 w _ g293 t291 t316 from by repeat (first | (with_reducible first | exact HI293.out | apply IsS53.alloc | apply IsS53.drewN | apply IsS53.drew | apply IsS53.set_1 | refine IsS53.far ?_ NB293_301.out _) | exact HI293.out)) q171_ (by decide)) hk (fun _ h => h.2)) (fun _ h => h.1))
          have n3_ := am_ (Kd.R_mono (Kd.R_keep (IsS53.apart (show IsS53 w _ g293 t291 t316 from by repeat (first | (with_reducible first | exact HI293.out | apply IsS53.alloc | apply IsS53.drewN | apply IsS53.drew | apply IsS53.set_1 | refine IsS53.far ?_ NB293_301.out _) | exact HI293.out)) q172_ (by decide)) hk (fun _ h => h.2)) (fun _ h => h.1))
          have n4_ := am_ (hb)
          have n5_ := am_ (hi)
          clear HO299
          clear BK301
          clear HO306
          clear HO312
          clear HB
          clear HI293
          have HO299 := n0_
          have BK301 := n1_
          have HO306 := n2_
          have HO312 := n3_
          have HB := n4_
          have HI293 := n5_
          clear n0_ n1_ n2_ n3_ n4_ n5_
          (try clear hb)
          (try clear hb2)
          (try clear hk)
          (try clear hi)
          refine hK.out _ _ ⟨(blk_cell BK301.out 0).trans rfl, (blk_cell BK301.out 1).trans rfl, (blk_cell BK301.out 2).trans rfl, (blk_cell BK301.out 3).trans rfl⟩ (fun hHeld => ?_)
          clear hK K
          refine norm_ (a' := ?_) ?_ ?_
          rotate_left
          ·show Act.put _ (some 32) _ = _
           simp only [Act.put, List.setIfInBounds_toArray, List.set_cons_zero, List.set_cons_succ, i64_w, i32_w]
           rfl
          exact norm_ q62_ (hJ2_4_7_9_13_15 (v305, v311) _ ⟨hHeld, q170_, q171_, q172_, q149_, q81_, q68_⟩)
         ·skip
          refine box_step ?hg (N := 7) ?hd (cs := #[.int .i64 0, .int .i64 0]) (t := 38) ?hr ?_; (case hd => rfl); (case hg => rfl); (case hr => first | (go_simp; done) | (go_simp; rfl))
          intro gb319 hg w34 hbox hb
          have n0_ := am_ (Kd.R_below q170_ hb)
          have n1_ := am_ (Kd.R_below q171_ hb)
          have n2_ := am_ (Kd.R_below q172_ hb)
          have n3_ := am_ (IsS53.below q81_ hb)
          have n4_ := am_ (blk_below (g := gb301) (o := .cells #[.int .i64 t294, .int .i64 t295, .int .i64 t296, .slice Ao25 t297.length co25] 35 (0, 0)) q149_ hb)
          have n5_ := am_ (below_step q68_ hb)
          have n6_ := am_ (hbox)
          have n7_ := am_ ((q44_ : w.heap.size ≤ gb319))
          have n8_ := am_ ((q44_ : w.heap.size ≤ gb319))
          have n9_ := am_ ((q21_ : gb301 ≠ gb319))
          have n10_ := am_ ((q22_ : gb319 ≠ gb301))
          have n11_ := am_ ((by rw [hg]; exact Nat.ne_of_lt (IsS53.lt (show IsS53 w _ g293 t291 t316 from by repeat (first | (with_reducible first | exact HI293.out | apply IsS53.alloc | apply IsS53.drewN | apply IsS53.drew | apply IsS53.set_1 | refine IsS53.far ?_ NB293_301.out _) | exact HI293.out))) : g293 ≠ gb319))
          have n12_ := am_ ((by rw [hg]; exact Nat.ne_of_gt (IsS53.lt (show IsS53 w _ g293 t291 t316 from by repeat (first | (with_reducible first | exact HI293.out | apply IsS53.alloc | apply IsS53.drewN | apply IsS53.drew | apply IsS53.set_1 | refine IsS53.far ?_ NB293_301.out _) | exact HI293.out))) : gb319 ≠ g293))
          clear HO299
          clear HO306
          clear HO312
          clear HI293
          clear BK301
          clear HB
          have HO299 := n0_
          have HO306 := n1_
          have HO312 := n2_
          have HI293 := n3_
          have BK301 := n4_
          have HB := n5_
          have BK319 := n6_
          have GW319 := n7_
          have GE319 := n8_
          have NB301_319 := n9_
          have NB319_301 := n10_
          have NB293_319 := n11_
          have NB319_293 := n12_
          clear n0_ n1_ n2_ n3_ n4_ n5_ n6_ n7_ n8_ n9_ n10_ n11_ n12_
          clear hb hbox hg
          refine hK.out _ _ ⟨(blk_cell BK301.out 0).trans rfl, (blk_cell BK301.out 1).trans rfl, (blk_cell BK301.out 2).trans rfl, (blk_cell BK301.out 3).trans rfl⟩ (fun hHeld => ?_)
          clear hK K
          refine norm_ (a' := ?_) ?_ ?_
          rotate_left
          ·show Act.put _ (some 7) _ = _
           simp only [Act.put, List.setIfInBounds_toArray, List.set_cons_zero, List.set_cons_succ, i64_w, i32_w]
           rfl
          exact norm_ q62_ (hJ2_4_7_9_13_16 (v305, v311, gb319) _ ⟨hHeld, q170_, q171_, q172_, q149_, q150_, GW319.out, GE319.out, NB293_319.out, NB319_293.out, NB301_319.out, NB319_301.out, q50_, q45_⟩)
       ·skip
        rintro ⟨v305, v311, gb319⟩ w34 ⟨hS_, h0_, h1_, h2_, h3_, h4_, h5_, h6_, h7_, h8_, h9_, h10_, h11_, h12_⟩
        have n0_ : Aside0 (Kd.R (Kd.int .i64) 3 w34 w.heap.size (fun k_ => some k_ ≠ (v305 : Value).ownBlock ∧ some k_ ≠ (v311 : Value).ownBlock) (.slice Ao25 t297.length co25) t297) := ⟨h0_⟩
        have n1_ : Aside0 (Kd.R (Kd.int .i64) 3 w34 w.heap.size (fun k_ => some k_ ≠ (.slice Ao25 t297.length co25 : Value).ownBlock ∧ some k_ ≠ (v311 : Value).ownBlock) v305 t304) := ⟨h1_⟩
        have n2_ : Aside0 (Kd.R (Kd.int .i64) 3 w34 w.heap.size (fun k_ => some k_ ≠ (.slice Ao25 t297.length co25 : Value).ownBlock ∧ some k_ ≠ (v305 : Value).ownBlock) v311 t310) := ⟨h2_⟩
        have n3_ : Aside0 (w34.heap[gb301]? = some (.cells #[.int .i64 t294, .int .i64 t295, .int .i64 t296, .slice Ao25 t297.length co25] 35 (0, 0))) := ⟨h3_⟩
        have n4_ : Aside0 (w34.heap[gb319]? = some (.cells #[.int .i64 0, .int .i64 0] 38 (0, 0))) := ⟨h4_⟩
        have n5_ : Aside0 (w.heap.size ≤ gb319) := ⟨h5_⟩
        have n6_ : Aside0 (w.heap.size ≤ gb319) := ⟨h6_⟩
        have n7_ : Aside0 (g293 ≠ gb319) := ⟨h7_⟩
        have n8_ : Aside0 (gb319 ≠ g293) := ⟨h8_⟩
        have n9_ : Aside0 (gb301 ≠ gb319) := ⟨h9_⟩
        have n10_ : Aside0 (gb319 ≠ gb301) := ⟨h10_⟩
        have n11_ : Aside0 (IsS53 w w34 g293 t291 t316) := ⟨h11_⟩
        have n12_ : Aside0 (Below w.heap.size w w34) := ⟨h12_⟩
        clear HO299
        clear BK301
        clear HI293
        clear HB
        clear h0_ h1_ h2_ h3_ h4_ h5_ h6_ h7_ h8_ h9_ h10_ h11_ h12_
        have HO299 := n0_
        have HO306 := n1_
        have HO312 := n2_
        have BK301 := n3_
        have BK319 := n4_
        have GW319 := n5_
        have GE319 := n6_
        have NB293_319 := n7_
        have NB319_293 := n8_
        have NB301_319 := n9_
        have NB319_301 := n10_
        have HI293 := n11_
        have HB := n12_
        clear n0_ n1_ n2_ n3_ n4_ n5_ n6_ n7_ n8_ n9_ n10_ n11_ n12_
        have hHeld : w34.cell? ⟨gb301, 0, none⟩ = some (.int .i64 t294) ∧ w34.cell? ⟨gb301, 1, none⟩ = some (.int .i64 t295) ∧ w34.cell? ⟨gb301, 2, none⟩ = some (.int .i64 t296) ∧ w34.cell? ⟨gb301, 3, none⟩ = some (.slice Ao25 t297.length co25) := hS_
        refine norm_ (a' := ?_) ?_ ?_
        rotate_left
        ·simp only [putAll, Act.put, List.setIfInBounds_toArray, List.set_cons_zero, List.set_cons_succ]
         rfl
        refine one_ (i := 15) (N := some 32) #[true, true, true, true, true, true, true, true, true, true, true, true, true, true, true, true, true, false, false, false, false] rfl rfl (one_of HT_.out (by kernel_rfl)) (by decide) (fun K hK => ?_)
        refine goes_ Try.func10 (by kernel_rfl) rfl #[.pointer (some ⟨g293, 0, none⟩), .int .i64 5] (by rfl) rfl rfl q117_ ?_
        with_reducible refine (tilefarmgen_Tape_Next.calls g293 t291 t316 5 t317 t318 w _ ?side1 ?side2 A9.out).mono ?_
        (case side1 => repeat (first | (with_reducible first | exact HI293.out | apply IsS53.alloc | apply IsS53.drewN | apply IsS53.drew | apply IsS53.set_1 | refine IsS53.far ?_ NB293_301.out _ | refine IsS53.far ?_ NB293_319.out _) | exact HI293.out))
        (case side2 => repeat (first | (with_reducible first | exact HB.out | apply below_alloc | apply pw_below_drewN | apply below_drew1 | refine below_set ?_ (IsS53.ge HI293.out) | refine below_set ?_ GE301.out | refine below_set ?_ GE319.out) | exact HB.out))
        rintro e w35 ⟨rfl, hi, hb, hk⟩
        refine ⟨_, rfl, ?_⟩
        have n0_ := am_ (Kd.R_mono (Kd.R_keep (IsS53.apart (show IsS53 w _ g293 t291 t316 from by repeat (first | (with_reducible first | exact HI293.out | apply IsS53.alloc | apply IsS53.drewN | apply IsS53.drew | apply IsS53.set_1 | refine IsS53.far ?_ NB293_301.out _ | refine IsS53.far ?_ NB293_319.out _) | exact HI293.out)) q170_ (by decide)) hk (fun _ h => h.2)) (fun _ h => h.1))
        have n1_ := am_ (KeepBut.blk hk (g' := gb301) (o := .cells #[.int .i64 t294, .int .i64 t295, .int .i64 t296, .slice Ao25 t297.length co25] 35 (0, 0)) q149_ NB301_293.out (by simp))
        have n2_ := am_ (Kd.R_mono (Kd.R_keep (IsS53.apart (show IsS53 w _ g293 t291 t316 from by repeat (first | (with_reducible first | exact HI293.out | apply IsS53.alloc | apply IsS53.drewN | apply IsS53.drew | apply IsS53.set_1 | refine IsS53.far ?_ NB293_301.out _ | refine IsS53.far ?_ NB293_319.out _) | exact HI293.out)) q171_ (by decide)) hk (fun _ h => h.2)) (fun _ h => h.1))
        have n3_ := am_ (Kd.R_mono (Kd.R_keep (IsS53.apart (show IsS53 w _ g293 t291 t316 from by repeat (first | (with_reducible first | exact HI293.out | apply IsS53.alloc | apply IsS53.drewN | apply IsS53.drew | apply IsS53.set_1 | refine IsS53.far ?_ NB293_301.out _ | refine IsS53.far ?_ NB293_319.out _) | exact HI293.out)) q172_ (by decide)) hk (fun _ h => h.2)) (fun _ h => h.1))
        have n4_ := am_ (KeepBut.blk hk (g' := gb319) (o := .cells #[.int .i64 0, .int .i64 0] 38 (0, 0)) q150_ NB319_293.out (by simp))
        have n5_ := am_ (hb)
        have n6_ := am_ (hi)
        clear HO299
        clear BK301
        clear HO306
        clear HO312
        clear BK319
        clear HB
        clear HI293
        have HO299 := n0_
        have BK301 := n1_
        have HO306 := n2_
        have HO312 := n3_
        have BK319 := n4_
        have HB := n5_
        have HI293 := n6_
        clear n0_ n1_ n2_ n3_ n4_ n5_ n6_
        (try clear hb)
        (try clear hb2)
        (try clear hk)
        (try clear hi)
        refine hK.out _ _ ⟨(blk_cell BK301.out 0).trans rfl, (blk_cell BK301.out 1).trans rfl, (blk_cell BK301.out 2).trans rfl, (blk_cell BK301.out 3).trans rfl⟩ (fun hHeld => ?_)
        clear hK K
        refine norm_ (a' := ?_) ?_ ?_
        rotate_left
        ·show Act.put _ (some 32) _ = _
         simp only [Act.put, List.setIfInBounds_toArray, List.set_cons_zero, List.set_cons_succ, i64_w, i32_w]
         rfl
        exact norm_ q62_ (hJ2_4_7_9_13_15_16 (v305, v311, gb319) _ ⟨hHeld, q170_, q171_, q172_, q149_, q150_, GW319.out, GE319.out, NB293_319.out, NB319_293.out, NB301_319.out, NB319_301.out, q50_, q45_⟩)
      ·skip
       rintro ⟨v305, v311⟩ w34 ⟨hS_, h0_, h1_, h2_, h3_, h4_, h5_⟩
       have n0_ : Aside0 (Kd.R (Kd.int .i64) 3 w34 w.heap.size (fun k_ => some k_ ≠ (v305 : Value).ownBlock ∧ some k_ ≠ (v311 : Value).ownBlock) (.slice Ao25 t297.length co25) t297) := ⟨h0_⟩
       have n1_ : Aside0 (Kd.R (Kd.int .i64) 3 w34 w.heap.size (fun k_ => some k_ ≠ (.slice Ao25 t297.length co25 : Value).ownBlock ∧ some k_ ≠ (v311 : Value).ownBlock) v305 t304) := ⟨h1_⟩
       have n2_ : Aside0 (Kd.R (Kd.int .i64) 3 w34 w.heap.size (fun k_ => some k_ ≠ (.slice Ao25 t297.length co25 : Value).ownBlock ∧ some k_ ≠ (v305 : Value).ownBlock) v311 t310) := ⟨h2_⟩
       have n3_ : Aside0 (w34.heap[gb301]? = some (.cells #[.int .i64 t294, .int .i64 t295, .int .i64 t296, .slice Ao25 t297.length co25] 35 (0, 0))) := ⟨h3_⟩
       have n4_ : Aside0 (IsS53 w w34 g293 t291 t318) := ⟨h4_⟩
       have n5_ : Aside0 (Below w.heap.size w w34) := ⟨h5_⟩
       clear HO299
       clear BK301
       clear HI293
       clear HB
       clear h0_ h1_ h2_ h3_ h4_ h5_
       have HO299 := n0_
       have HO306 := n1_
       have HO312 := n2_
       have BK301 := n3_
       have HI293 := n4_
       have HB := n5_
       clear n0_ n1_ n2_ n3_ n4_ n5_
       have hHeld : w34.cell? ⟨gb301, 0, none⟩ = some (.int .i64 t294) ∧ w34.cell? ⟨gb301, 1, none⟩ = some (.int .i64 t295) ∧ w34.cell? ⟨gb301, 2, none⟩ = some (.int .i64 t296) ∧ w34.cell? ⟨gb301, 3, none⟩ = some (.slice Ao25 t297.length co25) := hS_
       refine norm_ (a' := ?_) ?_ ?_
       rotate_left
       ·simp only [putAll, Act.put, List.setIfInBounds_toArray, List.set_cons_zero, List.set_cons_succ]
        rfl
       refine one_ (i := 16) (N := some 7) #[true, true, true, true, true, true, true, true, true, true, true, true, true, true, true, true, true, false, false, false, false] rfl rfl (one_of HT_.out (by kernel_rfl)) (by decide) (fun K hK => ?_)
       refine box_step ?hg (N := 7) ?hd (cs := #[.int .i64 0, .int .i64 0]) (t := 38) ?hr ?_; (case hd => rfl); (case hg => rfl); (case hr => first | (go_simp; done) | (go_simp; rfl))
       intro gb319 hg w35 hbox hb
       have n0_ := am_ (Kd.R_below q170_ hb)
       have n1_ := am_ (Kd.R_below q171_ hb)
       have n2_ := am_ (Kd.R_below q172_ hb)
       have n3_ := am_ (IsS53.below q81_ hb)
       have n4_ := am_ (blk_below (g := gb301) (o := .cells #[.int .i64 t294, .int .i64 t295, .int .i64 t296, .slice Ao25 t297.length co25] 35 (0, 0)) q149_ hb)
       have n5_ := am_ (below_step q68_ hb)
       have n6_ := am_ (hbox)
       have n7_ := am_ ((q44_ : w.heap.size ≤ gb319))
       have n8_ := am_ ((q44_ : w.heap.size ≤ gb319))
       have n9_ := am_ ((q21_ : gb301 ≠ gb319))
       have n10_ := am_ ((q22_ : gb319 ≠ gb301))
       have n11_ := am_ ((by rw [hg]; exact Nat.ne_of_lt (IsS53.lt (show IsS53 w _ g293 t291 t318 from by repeat (first | (with_reducible first | exact HI293.out | apply IsS53.alloc | apply IsS53.drewN | apply IsS53.drew | apply IsS53.set_1 | refine IsS53.far ?_ NB293_301.out _) | exact HI293.out))) : g293 ≠ gb319))
       have n12_ := am_ ((by rw [hg]; exact Nat.ne_of_gt (IsS53.lt (show IsS53 w _ g293 t291 t318 from by repeat (first | (with_reducible first | exact HI293.out | apply IsS53.alloc | apply IsS53.drewN | apply IsS53.drew | apply IsS53.set_1 | refine IsS53.far ?_ NB293_301.out _) | exact HI293.out))) : gb319 ≠ g293))
       clear HO299
       clear HO306
       clear HO312
       clear HI293
       clear BK301
       clear HB
       have HO299 := n0_
       have HO306 := n1_
       have HO312 := n2_
       have HI293 := n3_
       have BK301 := n4_
       have HB := n5_
       have BK319 := n6_
       have GW319 := n7_
       have GE319 := n8_
       have NB301_319 := n9_
       have NB319_301 := n10_
       have NB293_319 := n11_
       have NB319_293 := n12_
       clear n0_ n1_ n2_ n3_ n4_ n5_ n6_ n7_ n8_ n9_ n10_ n11_ n12_
       clear hb hbox hg
       refine hK.out _ _ ⟨(blk_cell BK301.out 0).trans rfl, (blk_cell BK301.out 1).trans rfl, (blk_cell BK301.out 2).trans rfl, (blk_cell BK301.out 3).trans rfl⟩ (fun hHeld => ?_)
       clear hK K
       refine norm_ (a' := ?_) ?_ ?_
       rotate_left
       ·show Act.put _ (some 7) _ = _
        simp only [Act.put, List.setIfInBounds_toArray, List.set_cons_zero, List.set_cons_succ, i64_w, i32_w]
        rfl
       exact norm_ q62_ (hJ2_4_7_9_13_15_16 (v305, v311, gb319) _ ⟨hHeld, q170_, q171_, q172_, q149_, q150_, GW319.out, GE319.out, NB293_319.out, NB319_293.out, NB301_319.out, NB319_301.out, q50_, q45_⟩)
     rintro ⟨v305, v311, gb319⟩ w35 ⟨hS_, h0_, h1_, h2_, h3_, h4_, h5_, h6_, h7_, h8_, h9_, h10_, h11_, h12_⟩
     have n0_ : Aside0 (Kd.R (Kd.int .i64) 3 w35 w.heap.size (fun k_ => some k_ ≠ (v305 : Value).ownBlock ∧ some k_ ≠ (v311 : Value).ownBlock) (.slice Ao25 t297.length co25) t297) := ⟨h0_⟩
     have n1_ : Aside0 (Kd.R (Kd.int .i64) 3 w35 w.heap.size (fun k_ => some k_ ≠ (.slice Ao25 t297.length co25 : Value).ownBlock ∧ some k_ ≠ (v311 : Value).ownBlock) v305 t304) := ⟨h1_⟩
     have n2_ : Aside0 (Kd.R (Kd.int .i64) 3 w35 w.heap.size (fun k_ => some k_ ≠ (.slice Ao25 t297.length co25 : Value).ownBlock ∧ some k_ ≠ (v305 : Value).ownBlock) v311 t310) := ⟨h2_⟩
     have n3_ : Aside0 (w35.heap[gb301]? = some (.cells #[.int .i64 t294, .int .i64 t295, .int .i64 t296, .slice Ao25 t297.length co25] 35 (0, 0))) := ⟨h3_⟩
     have n4_ : Aside0 (w35.heap[gb319]? = some (.cells #[.int .i64 0, .int .i64 0] 38 (0, 0))) := ⟨h4_⟩
     have n5_ : Aside0 (w.heap.size ≤ gb319) := ⟨h5_⟩
     have n6_ : Aside0 (w.heap.size ≤ gb319) := ⟨h6_⟩
     have n7_ : Aside0 (g293 ≠ gb319) := ⟨h7_⟩
     have n8_ : Aside0 (gb319 ≠ g293) := ⟨h8_⟩
     have n9_ : Aside0 (gb301 ≠ gb319) := ⟨h9_⟩
     have n10_ : Aside0 (gb319 ≠ gb301) := ⟨h10_⟩
     have n11_ : Aside0 (IsS53 w w35 g293 t291 t318) := ⟨h11_⟩
     have n12_ : Aside0 (Below w.heap.size w w35) := ⟨h12_⟩
     clear HO299
     clear BK301
     clear HI293
     clear HB
     clear h0_ h1_ h2_ h3_ h4_ h5_ h6_ h7_ h8_ h9_ h10_ h11_ h12_
     have HO299 := n0_
     have HO306 := n1_
     have HO312 := n2_
     have BK301 := n3_
     have BK319 := n4_
     have GW319 := n5_
     have GE319 := n6_
     have NB293_319 := n7_
     have NB319_293 := n8_
     have NB301_319 := n9_
     have NB319_301 := n10_
     have HI293 := n11_
     have HB := n12_
     clear n0_ n1_ n2_ n3_ n4_ n5_ n6_ n7_ n8_ n9_ n10_ n11_ n12_
     have hHeld : w35.cell? ⟨gb301, 0, none⟩ = some (.int .i64 t294) ∧ w35.cell? ⟨gb301, 1, none⟩ = some (.int .i64 t295) ∧ w35.cell? ⟨gb301, 2, none⟩ = some (.int .i64 t296) ∧ w35.cell? ⟨gb301, 3, none⟩ = some (.slice Ao25 t297.length co25) := hS_
     refine norm_ (a' := ?_) ?_ ?_
     rotate_left
     ·simp only [putAll, Act.put, List.setIfInBounds_toArray, List.set_cons_zero, List.set_cons_succ]
      rfl
     refine pure_ (i := 17) (N := some 5) (v := ?_) (a' := ?_) #[true, true, true, true, true, true, true, true, true, true, true, true, true, true, true, true, true, true, false, false, false] rfl rfl (any_of HT_.out (by kernel_rfl)) (fun _ _ _ h => h) (Or.inl ⟨by rfl, ?_⟩) ?_ ?_
     rotate_left
     ·intro w'
      go_simp
      with_reducible rfl
     rotate_left
     ·simp only [Act.put, List.setIfInBounds_toArray, List.set_cons_zero, List.set_cons_succ, i64_w, i32_w]
      rfl
     refine pure_ (i := 18) (N := some 6) (v := ?_) (a' := ?_) #[true, true, true, true, true, true, true, true, true, true, true, true, true, true, true, true, true, true, true, false, false] rfl rfl (any_of HT_.out (by kernel_rfl)) (fun _ _ _ h => h) (Or.inl ⟨by rfl, ?_⟩) ?_ ?_
     rotate_left
     ·intro w'
      go_simp
      with_reducible rfl
     rotate_left
     ·simp only [Act.put, List.setIfInBounds_toArray, List.set_cons_zero, List.set_cons_succ, i64_w, i32_w]
      rfl
     refine one_ (i := 19) (N := none) #[true, true, true, true, true, true, true, true, true, true, true, true, true, true, true, true, true, true, true, true, false] rfl rfl (one_of HT_.out (by kernel_rfl)) (by decide) (fun K hK => ?_)
     have hs36 : w35.cell? ⟨gb319, 0, none⟩ = some (.int .i64 0) := (blk_cell BK319.out 0).trans rfl
     have hfs36 := blk_frozen BK319.out 0
     have hns36_0 := NB301_319.out
     have hms36_0 := NB319_301.out
     have hs37 : w35.cell? ⟨gb319, 1, none⟩ = some (.int .i64 0) := (blk_cell BK319.out 1).trans rfl
     have hfs37 := blk_frozen BK319.out 1
     have hns37_0 := NB301_319.out
     have hms37_0 := NB319_301.out
     refine skip_ (w1 := ?_) (by rfl) rfl ?_ ?_
     rotate_left
     ·go_simp
      rfl
     refine hK.out _ _ ⟨((cell_far (p := ⟨gb319, _, none⟩) NB301_319.out _).trans (((cell_far (p := ⟨gb319, _, none⟩) NB301_319.out _).trans (hHeld.1)))), ((cell_far (p := ⟨gb319, _, none⟩) NB301_319.out _).trans (((cell_far (p := ⟨gb319, _, none⟩) NB301_319.out _).trans (hHeld.2.1)))), ((cell_far (p := ⟨gb319, _, none⟩) NB301_319.out _).trans (((cell_far (p := ⟨gb319, _, none⟩) NB301_319.out _).trans (hHeld.2.2.1)))), ((cell_far (p := ⟨gb319, _, none⟩) NB301_319.out _).trans (((cell_far (p := ⟨gb319, _, none⟩) NB301_319.out _).trans (hHeld.2.2.2))))⟩ (fun hHeld => ?_)
     clear hK K
     refine pure_ (i := 20) (N := some 8) (v := ?_) (a' := ?_) #[true, true, true, true, true, true, true, true, true, true, true, true, true, true, true, true, true, true, true, true, true] rfl rfl (any_of HT_.out (by kernel_rfl)) (fun _ _ _ h => h) (Or.inl ⟨by rfl, ?_⟩) ?_ ?_
     rotate_left
     ·intro w'
      go_simp
      with_reducible rfl
     rotate_left
     ·simp only [Act.put, List.setIfInBounds_toArray, List.set_cons_zero, List.set_cons_succ, i64_w, i32_w]
      rfl
     refine done_ (done_of HT_.out (by kernel_rfl)) ?_
     have hnb38 := NB301_319.out
     have hnc38 := NB319_301.out
     have hcz39_0 : w35.cell? ⟨gb301, 0, none⟩ = some (.int .i64 t294) := (blk_cell BK301.out 0).trans rfl
     have hcz39_1 : w35.cell? ⟨gb301, 1, none⟩ = some (.int .i64 t295) := (blk_cell BK301.out 1).trans rfl
     have hcz39_2 : w35.cell? ⟨gb301, 2, none⟩ = some (.int .i64 t296) := (blk_cell BK301.out 2).trans rfl
     have hcz39_3 : w35.cell? ⟨gb301, 3, none⟩ = some (.slice Ao25 t297.length co25) := (blk_cell BK301.out 3).trans rfl
     have hfz39_0 := blk_frozen BK301.out 0
     have hfz39_1 := blk_frozen BK301.out 1
     have hfz39_2 := blk_frozen BK301.out 2
     have hfz39_3 := blk_frozen BK301.out 3
     have hnb40 := NB319_293.out
     have hnc40 := NB293_319.out
     have hcz41_0 : w35.cell? ⟨gb319, 0, none⟩ = some (.int .i64 0) := (blk_cell BK319.out 0).trans rfl
     have hcz41_1 : w35.cell? ⟨gb319, 1, none⟩ = some (.int .i64 0) := (blk_cell BK319.out 1).trans rfl
     have hfz41_0 := blk_frozen BK319.out 0
     have hfz41_1 := blk_frozen BK319.out 1
     obtain ⟨Ao42, co42, eo42⟩ := Kd.R_slice HO306.out
     subst eo42
     obtain ⟨Ao43, co43, eo43⟩ := Kd.R_slice HO312.out
     subst eo43
     try go_wp2_with (first | ((with_reducible refine gate_callee (f := 20) rfl ?_); refine goesL_ (some 44) rfl rfl Try.func20 (by kernel_rfl) rfl #[.agg #[.int .i64 t294, .int .i64 t295, .int .i64 t296, .slice Ao25 t297.length co25], .agg #[.int .i64 t314, .int .i64 t315], .slice Ao42 t304.length co42, .slice Ao43 t310.length co43, .int .i64 0, .int .i64 t317, .int .i64 255, .agg #[.int .i64 0, .int .i64 0, .int .i64 t294, .int .i64 t295]] rfl q117_ ?_; (with_reducible refine (separable_Tile.calls k t294 t295 t296 _ _ t297 t314 t315 _ _ t304 _ _ t310 0 t317 255 0 0 t294 t295 t320 t321 t322 t323 t326 _ ?side1 ?side2 ?side3 ?side4 ?side5 ?side6 A10.out).mono ?_); (case side1 => refine (Kd.R_reads' (e := 3) (base := w.heap.size) (ok := fun k_ => (some k_ ≠ (.slice Ao42 t304.length co42 : Value).ownBlock ∧ some k_ ≠ (.slice Ao43 t310.length co43 : Value).ownBlock)) (n := t297.length) (c := co25) ?_).2.2; exact q5_); (case side2 => exact (Kd.R_reads' HO299.out).2.1); (case side3 => refine (Kd.R_reads' (e := 3) (base := w.heap.size) (ok := fun k_ => (some k_ ≠ (.slice Ao25 t297.length co25 : Value).ownBlock ∧ some k_ ≠ (.slice Ao43 t310.length co43 : Value).ownBlock)) (n := t304.length) (c := co42) ?_).2.2; exact q6_); (case side4 => exact (Kd.R_reads' HO306.out).2.1); (case side5 => refine (Kd.R_reads' (e := 3) (base := w.heap.size) (ok := fun k_ => (some k_ ≠ (.slice Ao25 t297.length co25 : Value).ownBlock ∧ some k_ ≠ (.slice Ao42 t304.length co42 : Value).ownBlock)) (n := t310.length) (c := co43) ?_).2.2; exact q7_); (case side6 => exact (Kd.R_reads' HO312.out).2.1); rintro e w44 ⟨v324, rfl, ho0, hb⟩; refine ⟨_, rfl, ?_⟩; have n0_ := am_ (Kd.R_elder' q5_ (Kd.R_base ho0) hb); have n1_ := am_ (Kd.R_elder' q6_ (Kd.R_base ho0) hb); have n2_ := am_ (Kd.R_elder' q7_ (Kd.R_base ho0) hb); have n3_ := am_ (Kd.R_lower (Kd.R_new' (Kd.R_new' (Kd.R_new' ho0 (Kd.R_lt q5_)) (Kd.R_lt q6_)) (Kd.R_lt q7_)) (below_size q45_)); have n4_ := am_ (IsS53.below (show IsS53 w ((w35.setCell ⟨gb319, 0, none⟩ (.int .i64 t314)).setCell ⟨gb319, 1, none⟩ (.int .i64 t315)) g293 t291 t318 from by repeat (first | (with_reducible first | exact HI293.out | apply IsS53.alloc | apply IsS53.drewN | apply IsS53.drew | apply IsS53.set_1 | refine IsS53.far ?_ NB293_301.out _ | refine IsS53.far ?_ NB293_319.out _) | exact HI293.out)) hb); have n5_ := am_ (blk_below (g := gb301) (o := .cells #[.int .i64 t294, .int .i64 t295, .int .i64 t296, .slice Ao25 t297.length co25] 35 (0, 0)) (by (with_reducible repeat (first | refine blk_drewN ?_ _ | refine blk_drew ?_ | refine blk_alloc ?_ _)); refine blk_far ?_ NB301_319.out _; (with_reducible repeat (first | refine blk_drewN ?_ _ | refine blk_drew ?_ | refine blk_alloc ?_ _)); refine blk_far ?_ NB301_319.out _; (with_reducible repeat (first | refine blk_drewN ?_ _ | refine blk_drew ?_ | refine blk_alloc ?_ _)); exact BK301.out) hb); have n6_ := am_ (blk_below (g := gb319) (o := .cells #[.int .i64 t314, .int .i64 t315] 38 (0, 0)) (by (with_reducible repeat (first | refine blk_drewN ?_ _ | refine blk_drew ?_ | refine blk_alloc ?_ _)); refine blk_put (cs := #[.int .i64 t314, .int .i64 0]) ?_ 1 _ rfl; (with_reducible repeat (first | refine blk_drewN ?_ _ | refine blk_drew ?_ | refine blk_alloc ?_ _)); refine blk_put (cs := #[.int .i64 0, .int .i64 0]) ?_ 0 _ rfl; (with_reducible repeat (first | refine blk_drewN ?_ _ | refine blk_drew ?_ | refine blk_alloc ?_ _)); exact BK319.out) hb); have n7_ := am_ (below_step q45_ hb); clear HO299; clear HO306; clear HO312; clear HI293; clear BK301; clear BK319; clear HB; have HO299 := n0_; have HO306 := n1_; have HO312 := n2_; have HO325 := n3_; have HI293 := n4_; have BK301 := n5_; have BK319 := n6_; have HB := n7_; clear n0_ n1_ n2_ n3_ n4_ n5_ n6_ n7_; (try clear ho0)) | ((with_reducible refine gate_dst (N := 9) rfl ?_); (try (refine gate_guard (by rfl) ?_; dsimp only)); refine box_event ?hg (N := 9) ?hd (cs := #[.int .i64 0, .int .i64 0, .int .i64 0, .slice none 0 0]) (t := 35) ?hr ?_; (case hd => rfl); (case hg => rfl); (case hr => first | (go_simp; done) | (go_simp; rfl)); intro gb327 hg w45 hbox hb; have n0_ := am_ (Kd.R_below q170_ hb); have n1_ := am_ (Kd.R_below q171_ hb); have n2_ := am_ (Kd.R_below q172_ hb); have n3_ := am_ (Kd.R_below q173_ hb); have n4_ := am_ (IsS53.below q50_ hb); have n5_ := am_ (blk_below (g := gb301) (o := .cells #[.int .i64 t294, .int .i64 t295, .int .i64 t296, .slice Ao25 t297.length co25] 35 (0, 0)) q149_ hb); have n6_ := am_ (blk_below (g := gb319) (o := .cells #[.int .i64 t314, .int .i64 t315] 38 (0, 0)) q150_ hb); have n7_ := am_ (below_step q45_ hb); have n8_ := am_ (hbox); have n9_ := am_ ((by rw [hg]; exact (below_size q45_) : w.heap.size ≤ gb327)); have n10_ := am_ ((by rw [hg]; exact (below_size q45_) : w.heap.size ≤ gb327)); have n11_ := am_ ((q21_ : gb301 ≠ gb327)); have n12_ := am_ ((q22_ : gb327 ≠ gb301)); have n13_ := am_ ((q51_ : gb319 ≠ gb327)); have n14_ := am_ ((q52_ : gb327 ≠ gb319)); have n15_ := am_ ((by rw [hg]; exact Nat.ne_of_lt (IsS53.lt (show IsS53 w _ g293 t291 t318 from by repeat (first | (with_reducible first | exact HI293.out | apply IsS53.alloc | apply IsS53.drewN | apply IsS53.drew | apply IsS53.set_1 | refine IsS53.far ?_ NB293_301.out _ | refine IsS53.far ?_ NB293_319.out _) | exact HI293.out))) : g293 ≠ gb327)); have n16_ := am_ ((by rw [hg]; exact Nat.ne_of_gt (IsS53.lt (show IsS53 w _ g293 t291 t318 from by repeat (first | (with_reducible first | exact HI293.out | apply IsS53.alloc | apply IsS53.drewN | apply IsS53.drew | apply IsS53.set_1 | refine IsS53.far ?_ NB293_301.out _ | refine IsS53.far ?_ NB293_319.out _) | exact HI293.out))) : gb327 ≠ g293)); clear HO299; clear HO306; clear HO312; clear HO325; clear HI293; clear BK301; clear BK319; clear HB; have HO299 := n0_; have HO306 := n1_; have HO312 := n2_; have HO325 := n3_; have HI293 := n4_; have BK301 := n5_; have BK319 := n6_; have HB := n7_; have BK327 := n8_; have GW327 := n9_; have GE327 := n10_; have NB301_327 := n11_; have NB327_301 := n12_; have NB319_327 := n13_; have NB327_319 := n14_; have NB293_327 := n15_; have NB327_293 := n16_; clear n0_ n1_ n2_ n3_ n4_ n5_ n6_ n7_ n8_ n9_ n10_ n11_ n12_ n13_ n14_ n15_ n16_; clear hb hbox hg; have hnb46 := NB327_301.out; have hnc46 := NB301_327.out; have hnb47 := NB327_319.out; have hnc47 := NB319_327.out; have hnb48 := NB327_293.out; have hnc48 := NB293_327.out; have hcz49_0 : w45.cell? ⟨gb327, 0, none⟩ = some (.int .i64 0) := (blk_cell BK327.out 0).trans rfl; have hcz49_1 : w45.cell? ⟨gb327, 1, none⟩ = some (.int .i64 0) := (blk_cell BK327.out 1).trans rfl; have hcz49_2 : w45.cell? ⟨gb327, 2, none⟩ = some (.int .i64 0) := (blk_cell BK327.out 2).trans rfl; have hcz49_3 : w45.cell? ⟨gb327, 3, none⟩ = some (.slice none 0 0) := (blk_cell BK327.out 3).trans rfl; have hfz49_0 := blk_frozen BK327.out 0; have hfz49_1 := blk_frozen BK327.out 1; have hfz49_2 := blk_frozen BK327.out 2; have hfz49_3 := blk_frozen BK327.out 3; obtain ⟨Ao50, co50, eo50⟩ := Kd.R_slice HO325.out; subst eo50))
     have n0_ : Aside0 (Kd.R (Kd.int .i64) 3 ((((w45.setCell ⟨gb327, 0, none⟩ (.int .i64 t320)).setCell ⟨gb327, 1, none⟩ (.int .i64 t321)).setCell ⟨gb327, 2, none⟩ (.int .i64 t322)).setCell ⟨gb327, 3, none⟩ (.slice Ao50 t323.length co50)) w.heap.size (fun k_ => some k_ ≠ (.slice Ao42 t304.length co42 : Value).ownBlock ∧ some k_ ≠ (.slice Ao43 t310.length co43 : Value).ownBlock ∧ some k_ ≠ (.slice Ao50 t323.length co50 : Value).ownBlock) (.slice Ao25 t297.length co25) t297) := ⟨by (with_reducible repeat (first | apply Kd.R_alloc | apply Kd.R_drewN | apply Kd.R_drew)); exact Kd.R_mono (Kd.R_far (p := ⟨gb327, 3, none⟩) (Kd.R_far (p := ⟨gb327, 2, none⟩) (Kd.R_far (p := ⟨gb327, 1, none⟩) (Kd.R_far (p := ⟨gb327, 0, none⟩) (Kd.R_types HO299.out BK327.out (by decide)) (fun _ hk => hk.2) (.int .i64 t320)) (fun _ hk => hk.2) (.int .i64 t321)) (fun _ hk => hk.2) (.int .i64 t322)) (fun _ hk => hk.2) (.slice Ao50 t323.length co50)) (fun _ hk => ⟨hk.1.1.1, ⟨hk.1.1.2, hk.1.2⟩⟩)⟩
     have n1_ : Aside0 (Kd.R (Kd.int .i64) 3 ((((w45.setCell ⟨gb327, 0, none⟩ (.int .i64 t320)).setCell ⟨gb327, 1, none⟩ (.int .i64 t321)).setCell ⟨gb327, 2, none⟩ (.int .i64 t322)).setCell ⟨gb327, 3, none⟩ (.slice Ao50 t323.length co50)) w.heap.size (fun k_ => some k_ ≠ (.slice Ao25 t297.length co25 : Value).ownBlock ∧ some k_ ≠ (.slice Ao43 t310.length co43 : Value).ownBlock ∧ some k_ ≠ (.slice Ao50 t323.length co50 : Value).ownBlock) (.slice Ao42 t304.length co42) t304) := ⟨by (with_reducible repeat (first | apply Kd.R_alloc | apply Kd.R_drewN | apply Kd.R_drew)); exact Kd.R_mono (Kd.R_far (p := ⟨gb327, 3, none⟩) (Kd.R_far (p := ⟨gb327, 2, none⟩) (Kd.R_far (p := ⟨gb327, 1, none⟩) (Kd.R_far (p := ⟨gb327, 0, none⟩) (Kd.R_types HO306.out BK327.out (by decide)) (fun _ hk => hk.2) (.int .i64 t320)) (fun _ hk => hk.2) (.int .i64 t321)) (fun _ hk => hk.2) (.int .i64 t322)) (fun _ hk => hk.2) (.slice Ao50 t323.length co50)) (fun _ hk => ⟨hk.1.1.1, ⟨hk.1.1.2, hk.1.2⟩⟩)⟩
     have n2_ : Aside0 (Kd.R (Kd.int .i64) 3 ((((w45.setCell ⟨gb327, 0, none⟩ (.int .i64 t320)).setCell ⟨gb327, 1, none⟩ (.int .i64 t321)).setCell ⟨gb327, 2, none⟩ (.int .i64 t322)).setCell ⟨gb327, 3, none⟩ (.slice Ao50 t323.length co50)) w.heap.size (fun k_ => some k_ ≠ (.slice Ao25 t297.length co25 : Value).ownBlock ∧ some k_ ≠ (.slice Ao42 t304.length co42 : Value).ownBlock ∧ some k_ ≠ (.slice Ao50 t323.length co50 : Value).ownBlock) (.slice Ao43 t310.length co43) t310) := ⟨by (with_reducible repeat (first | apply Kd.R_alloc | apply Kd.R_drewN | apply Kd.R_drew)); exact Kd.R_mono (Kd.R_far (p := ⟨gb327, 3, none⟩) (Kd.R_far (p := ⟨gb327, 2, none⟩) (Kd.R_far (p := ⟨gb327, 1, none⟩) (Kd.R_far (p := ⟨gb327, 0, none⟩) (Kd.R_types HO312.out BK327.out (by decide)) (fun _ hk => hk.2) (.int .i64 t320)) (fun _ hk => hk.2) (.int .i64 t321)) (fun _ hk => hk.2) (.int .i64 t322)) (fun _ hk => hk.2) (.slice Ao50 t323.length co50)) (fun _ hk => ⟨hk.1.1.1, ⟨hk.1.1.2, hk.1.2⟩⟩)⟩
     have n3_ : Aside0 (Kd.R (Kd.int .i64) 3 ((((w45.setCell ⟨gb327, 0, none⟩ (.int .i64 t320)).setCell ⟨gb327, 1, none⟩ (.int .i64 t321)).setCell ⟨gb327, 2, none⟩ (.int .i64 t322)).setCell ⟨gb327, 3, none⟩ (.slice Ao50 t323.length co50)) w.heap.size (fun k_ => some k_ ≠ (.slice Ao25 t297.length co25 : Value).ownBlock ∧ some k_ ≠ (.slice Ao42 t304.length co42 : Value).ownBlock ∧ some k_ ≠ (.slice Ao43 t310.length co43 : Value).ownBlock) (.slice Ao50 t323.length co50) t323) := ⟨by (with_reducible repeat (first | apply Kd.R_alloc | apply Kd.R_drewN | apply Kd.R_drew)); exact Kd.R_mono (Kd.R_far (p := ⟨gb327, 3, none⟩) (Kd.R_far (p := ⟨gb327, 2, none⟩) (Kd.R_far (p := ⟨gb327, 1, none⟩) (Kd.R_far (p := ⟨gb327, 0, none⟩) (Kd.R_types HO325.out BK327.out (by decide)) (fun _ hk => hk.2) (.int .i64 t320)) (fun _ hk => hk.2) (.int .i64 t321)) (fun _ hk => hk.2) (.int .i64 t322)) (fun _ hk => hk.2) (.slice Ao50 t323.length co50)) (fun _ hk => ⟨hk.1.1.1.2, ⟨hk.1.1.2, hk.1.2⟩⟩)⟩
     have n4_ : Aside0 (((((w45.setCell ⟨gb327, 0, none⟩ (.int .i64 t320)).setCell ⟨gb327, 1, none⟩ (.int .i64 t321)).setCell ⟨gb327, 2, none⟩ (.int .i64 t322)).setCell ⟨gb327, 3, none⟩ (.slice Ao50 t323.length co50)).heap[gb301]? = some (.cells #[.int .i64 t294, .int .i64 t295, .int .i64 t296, .slice Ao25 t297.length co25] 35 (0, 0))) := ⟨by (with_reducible repeat (first | refine blk_drewN ?_ _ | refine blk_drew ?_ | refine blk_alloc ?_ _)); refine blk_far ?_ NB301_327.out _; (with_reducible repeat (first | refine blk_drewN ?_ _ | refine blk_drew ?_ | refine blk_alloc ?_ _)); refine blk_far ?_ NB301_327.out _; (with_reducible repeat (first | refine blk_drewN ?_ _ | refine blk_drew ?_ | refine blk_alloc ?_ _)); refine blk_far ?_ NB301_327.out _; (with_reducible repeat (first | refine blk_drewN ?_ _ | refine blk_drew ?_ | refine blk_alloc ?_ _)); refine blk_far ?_ NB301_327.out _; (with_reducible repeat (first | refine blk_drewN ?_ _ | refine blk_drew ?_ | refine blk_alloc ?_ _)); exact BK301.out⟩
     have n5_ : Aside0 (((((w45.setCell ⟨gb327, 0, none⟩ (.int .i64 t320)).setCell ⟨gb327, 1, none⟩ (.int .i64 t321)).setCell ⟨gb327, 2, none⟩ (.int .i64 t322)).setCell ⟨gb327, 3, none⟩ (.slice Ao50 t323.length co50)).heap[gb319]? = some (.cells #[.int .i64 t314, .int .i64 t315] 38 (0, 0))) := ⟨by (with_reducible repeat (first | refine blk_drewN ?_ _ | refine blk_drew ?_ | refine blk_alloc ?_ _)); refine blk_far ?_ NB319_327.out _; (with_reducible repeat (first | refine blk_drewN ?_ _ | refine blk_drew ?_ | refine blk_alloc ?_ _)); refine blk_far ?_ NB319_327.out _; (with_reducible repeat (first | refine blk_drewN ?_ _ | refine blk_drew ?_ | refine blk_alloc ?_ _)); refine blk_far ?_ NB319_327.out _; (with_reducible repeat (first | refine blk_drewN ?_ _ | refine blk_drew ?_ | refine blk_alloc ?_ _)); refine blk_far ?_ NB319_327.out _; (with_reducible repeat (first | refine blk_drewN ?_ _ | refine blk_drew ?_ | refine blk_alloc ?_ _)); exact BK319.out⟩
     have n6_ : Aside0 (((((w45.setCell ⟨gb327, 0, none⟩ (.int .i64 t320)).setCell ⟨gb327, 1, none⟩ (.int .i64 t321)).setCell ⟨gb327, 2, none⟩ (.int .i64 t322)).setCell ⟨gb327, 3, none⟩ (.slice Ao50 t323.length co50)).heap[gb327]? = some (.cells #[.int .i64 t320, .int .i64 t321, .int .i64 t322, .slice Ao50 t323.length co50] 35 (0, 0))) := ⟨by (with_reducible repeat (first | refine blk_drewN ?_ _ | refine blk_drew ?_ | refine blk_alloc ?_ _)); refine blk_put (cs := #[.int .i64 t320, .int .i64 t321, .int .i64 t322, .slice none 0 0]) ?_ 3 _ rfl; (with_reducible repeat (first | refine blk_drewN ?_ _ | refine blk_drew ?_ | refine blk_alloc ?_ _)); refine blk_put (cs := #[.int .i64 t320, .int .i64 t321, .int .i64 0, .slice none 0 0]) ?_ 2 _ rfl; (with_reducible repeat (first | refine blk_drewN ?_ _ | refine blk_drew ?_ | refine blk_alloc ?_ _)); refine blk_put (cs := #[.int .i64 t320, .int .i64 0, .int .i64 0, .slice none 0 0]) ?_ 1 _ rfl; (with_reducible repeat (first | refine blk_drewN ?_ _ | refine blk_drew ?_ | refine blk_alloc ?_ _)); refine blk_put (cs := #[.int .i64 0, .int .i64 0, .int .i64 0, .slice none 0 0]) ?_ 0 _ rfl; (with_reducible repeat (first | refine blk_drewN ?_ _ | refine blk_drew ?_ | refine blk_alloc ?_ _)); exact BK327.out⟩
     have n7_ : Aside0 (IsS53 w ((((w45.setCell ⟨gb327, 0, none⟩ (.int .i64 t320)).setCell ⟨gb327, 1, none⟩ (.int .i64 t321)).setCell ⟨gb327, 2, none⟩ (.int .i64 t322)).setCell ⟨gb327, 3, none⟩ (.slice Ao50 t323.length co50)) g293 t291 t318) := ⟨q26_⟩
     have n8_ : Aside0 (Below w.heap.size w ((((w45.setCell ⟨gb327, 0, none⟩ (.int .i64 t320)).setCell ⟨gb327, 1, none⟩ (.int .i64 t321)).setCell ⟨gb327, 2, none⟩ (.int .i64 t322)).setCell ⟨gb327, 3, none⟩ (.slice Ao50 t323.length co50))) := ⟨q25_⟩
     (try clear HO299)
     (try clear HO306)
     (try clear HO312)
     (try clear HO325)
     (try clear BK301)
     (try clear BK319)
     (try clear BK327)
     (try clear HI293)
     (try clear HB)
     generalize ((((w45.setCell ⟨gb327, 0, none⟩ (.int .i64 t320)).setCell ⟨gb327, 1, none⟩ (.int .i64 t321)).setCell ⟨gb327, 2, none⟩ (.int .i64 t322)).setCell ⟨gb327, 3, none⟩ (.slice Ao50 t323.length co50)) = w51 at n0_ n1_ n2_ n3_ n4_ n5_ n6_ n7_ n8_ ⊢
     have HO299 := n0_
     have HO306 := n1_
     have HO312 := n2_
     have HO325 := n3_
     have BK301 := n4_
     have BK319 := n5_
     have BK327 := n6_
     have HI293 := n7_
     have HB := n8_
     clear n0_ n1_ n2_ n3_ n4_ n5_ n6_ n7_ n8_
     have n0_ := am_ (Kd.R_drew HO299.out)
     have n1_ := am_ (Kd.R_drew HO306.out)
     have n2_ := am_ (Kd.R_drew HO312.out)
     have n3_ := am_ (Kd.R_drew HO325.out)
     have n4_ := am_ (blk_drew BK301.out)
     have n5_ := am_ (blk_drew BK319.out)
     have n6_ := am_ (blk_drew BK327.out)
     have n7_ := am_ (IsS53.drew HI293.out)
     have n8_ := am_ (below_drew1 HB.out)
     clear HO299
     clear HO306
     clear HO312
     clear HO325
     clear BK301
     clear BK319
     clear BK327
     clear HI293
     clear HB
     have HO299 := n0_
     have HO306 := n1_
     have HO312 := n2_
     have HO325 := n3_
     have BK301 := n4_
     have BK319 := n5_
     have BK327 := n6_
     have HI293 := n7_
     have HB := n8_
     clear n0_ n1_ n2_ n3_ n4_ n5_ n6_ n7_ n8_
     refine start_ (n := 18) (S := fun w' => w'.cell? ⟨gb301, 0, none⟩ = some (.int .i64 t294) ∧ w'.cell? ⟨gb301, 1, none⟩ = some (.int .i64 t295) ∧ w'.cell? ⟨gb301, 2, none⟩ = some (.int .i64 t296) ∧ w'.cell? ⟨gb301, 3, none⟩ = some (.slice Ao25 t297.length co25) ∧ w'.cell? ⟨gb319, 0, none⟩ = some (.int .i64 t314) ∧ w'.cell? ⟨gb319, 1, none⟩ = some (.int .i64 t315)) (ds := []) #[false, false, false, false, false, false, false, false, false, false, false, false, false, false, false, false, false, false] (by kernel_rfl) rfl rfl ⟨(blk_cell BK301.out 0).trans rfl, (blk_cell BK301.out 1).trans rfl, (blk_cell BK301.out 2).trans rfl, (blk_cell BK301.out 3).trans rfl, (blk_cell BK319.out 0).trans rfl, (blk_cell BK319.out 1).trans rfl⟩ (fun hHeld => ?_); refine with_tabW tilefarmlaw10_SeparableTurns.tab5 tilefarmlaw10_SeparableTurns.bits5 (fun HT_ HW_ => ?_)
     generalize w51.drew = w52 at HO299 HO306 HO312 HO325 BK301 BK319 BK327 HI293 HB hHeld ⊢
     refine pure_ (i := 3) (N := some 51) (v := ?_) (a' := ?_) #[false, false, false, true, false, false, false, false, false, false, false, false, false, false, false, false, false, false] rfl rfl (any_of HT_.out (by kernel_rfl)) (fun _ _ _ h => h) (Or.inl ⟨by rfl, ?_⟩) ?_ ?_
     rotate_left
     ·intro w'
      go_simp
      with_reducible rfl
     rotate_left
     ·simp only [Act.put, List.setIfInBounds_toArray, List.set_cons_zero, List.set_cons_succ, i64_w, i32_w]
      rfl
     refine pure_ (i := 4) (N := some 52) (v := ?_) (a' := ?_) #[false, false, false, true, true, false, false, false, false, false, false, false, false, false, false, false, false, false] rfl rfl (any_of HT_.out (by kernel_rfl)) (fun _ _ _ h => h) (Or.inl ⟨by rfl, ?_⟩) ?_ ?_
     rotate_left
     ·intro w'
      go_simp
      with_reducible rfl
     rotate_left
     ·simp only [Act.put, List.setIfInBounds_toArray, List.set_cons_zero, List.set_cons_succ, i64_w, i32_w]
      rfl
     refine pure_ (i := 5) (N := some 53) (v := ?_) (a' := ?_) #[false, false, false, true, true, true, false, false, false, false, false, false, false, false, false, false, false, false] rfl rfl (any_of HT_.out (by kernel_rfl)) (fun _ _ _ h => h) (Or.inl ⟨by rfl, ?_⟩) ?_ ?_
     rotate_left
     ·intro w'
      go_simp
      with_reducible rfl
     rotate_left
     ·simp only [Act.put, List.setIfInBounds_toArray, List.set_cons_zero, List.set_cons_succ, i64_w, i32_w]
      rfl
     refine pure_ (i := 6) (N := some 54) (v := ?_) (a' := ?_) #[false, false, false, true, true, true, true, false, false, false, false, false, false, false, false, false, false, false] rfl rfl (any_of HT_.out (by kernel_rfl)) (fun _ _ _ h => h) (Or.inl ⟨by rfl, ?_⟩) ?_ ?_
     rotate_left
     ·intro w'
      go_simp
      with_reducible rfl
     rotate_left
     ·simp only [Act.put, List.setIfInBounds_toArray, List.set_cons_zero, List.set_cons_succ, i64_w, i32_w]
      rfl
     refine pure_ (i := 8) (N := some 56) (v := ?_) (a' := ?_) #[false, false, false, true, true, true, true, false, true, false, false, false, false, false, false, false, false, false] rfl rfl (any_of HT_.out (by kernel_rfl)) (fun _ _ _ h => h) (Or.inl ⟨by rfl, ?_⟩) ?_ ?_
     rotate_left
     ·intro w'
      go_simp
      with_reducible rfl
     rotate_left
     ·simp only [Act.put, List.setIfInBounds_toArray, List.set_cons_zero, List.set_cons_succ, i64_w, i32_w]
      rfl
     refine take_ (i := 0) (N := some 48) (v := ?_) (a' := ?_) #[true, false, false, true, true, true, true, false, true, false, false, false, false, false, false, false, false, false] rfl rfl (take_ofW HT_.out HW_.out (by kernel_rfl)) (fun _ _ _ h => h) (Or.inl ⟨by rfl, ?_⟩) hHeld ?_ ?_
     rotate_left
     ·rintro w' ⟨s0, s1, s2, s3, s4, s5⟩
      go_simp
      with_reducible rfl
     rotate_left
     ·simp only [Act.put, List.setIfInBounds_toArray, List.set_cons_zero, List.set_cons_succ, i64_w, i32_w]
      rfl
     refine take_ (i := 2) (N := some 50) (v := ?_) (a' := ?_) #[true, false, true, true, true, true, true, false, true, false, false, false, false, false, false, false, false, false] rfl rfl (take_ofW HT_.out HW_.out (by kernel_rfl)) (fun _ _ _ h => h) (Or.inl ⟨by rfl, ?_⟩) hHeld ?_ ?_
     rotate_left
     ·rintro w' ⟨s0, s1, s2, s3, s4, s5⟩
      go_simp
      with_reducible rfl
     rotate_left
     ·simp only [Act.put, List.setIfInBounds_toArray, List.set_cons_zero, List.set_cons_succ, i64_w, i32_w]
      rfl
     refine take_ (i := 7) (N := some 55) (v := ?_) (a' := ?_) #[true, false, true, true, true, true, true, true, true, false, false, false, false, false, false, false, false, false] rfl rfl (take_ofW HT_.out HW_.out (by kernel_rfl)) (fun _ _ _ h => h) (Or.inl ⟨by rfl, ?_⟩) hHeld ?_ ?_
     rotate_left
     ·rintro w' ⟨s0, s1, s2, s3, s4, s5⟩
      go_simp
      with_reducible rfl
     rotate_left
     ·simp only [Act.put, List.setIfInBounds_toArray, List.set_cons_zero, List.set_cons_succ, i64_w, i32_w]
      rfl
     refine take_ (i := 9) (N := some 57) (v := ?_) (a' := ?_) #[true, false, true, true, true, true, true, true, true, true, false, false, false, false, false, false, false, false] rfl rfl (take_ofW HT_.out HW_.out (by kernel_rfl)) (fun _ _ _ h => h) (Or.inl ⟨by rfl, ?_⟩) hHeld ?_ ?_
     rotate_left
     ·rintro w' ⟨s0, s1, s2, s3, s4, s5⟩
      go_simp
      with_reducible rfl
     rotate_left
     ·simp only [Act.put, List.setIfInBounds_toArray, List.set_cons_zero, List.set_cons_succ, i64_w, i32_w]
      rfl
     refine pure_ (i := 10) (N := some 58) (v := ?_) (a' := ?_) #[true, false, true, true, true, true, true, true, true, true, true, false, false, false, false, false, false, false] rfl rfl (any_of HT_.out (by kernel_rfl)) (fun _ _ _ h => h) (Or.inl ⟨by rfl, ?_⟩) ?_ ?_
     rotate_left
     ·intro w'
      go_simp
      with_reducible rfl
     rotate_left
     ·simp only [Act.put, List.setIfInBounds_toArray, List.set_cons_zero, List.set_cons_succ, i64_w, i32_w]
      rfl
     refine join_ (σ := Value × Value × Nat) 2 #[true, true, true, true, true, true, true, true, true, true, true, true, true, true, true, true, false, false] (fun s_ => [(49, .agg #[.int .i64 t328, .int .i64 t329, .int .i64 t330, s_.1]), (59, .tuple #[.agg #[.int .i64 t334, .int .i64 t335, .int .i64 t336, s_.2.1], .int .i64 t340]), (11, .pointer (some ⟨s_.2.2, 0, none⟩)), (47, .tuple #[.agg #[.int .i64 t334, .int .i64 t335, .int .i64 t336, s_.2.1], .int .i64 t340]), (60, .agg #[.int .i64 t334, .int .i64 t335, .int .i64 t336, s_.2.1]), (61, .int .i64 t340)]) (fun s_ w' => (w'.cell? ⟨gb301, 0, none⟩ = some (.int .i64 t294) ∧ w'.cell? ⟨gb301, 1, none⟩ = some (.int .i64 t295) ∧ w'.cell? ⟨gb301, 2, none⟩ = some (.int .i64 t296) ∧ w'.cell? ⟨gb301, 3, none⟩ = some (.slice Ao25 t297.length co25) ∧ w'.cell? ⟨gb319, 0, none⟩ = some (.int .i64 t314) ∧ w'.cell? ⟨gb319, 1, none⟩ = some (.int .i64 t315)) ∧ (Kd.R (Kd.int .i64) 3 w' w.heap.size (fun k_ => some k_ ≠ (.slice Ao42 t304.length co42 : Value).ownBlock ∧ some k_ ≠ (.slice Ao43 t310.length co43 : Value).ownBlock ∧ some k_ ≠ (.slice Ao50 t323.length co50 : Value).ownBlock ∧ some k_ ≠ (s_.1 : Value).ownBlock ∧ some k_ ≠ (s_.2.1 : Value).ownBlock) (.slice Ao25 t297.length co25) t297) ∧ (Kd.R (Kd.int .i64) 3 w' w.heap.size (fun k_ => some k_ ≠ (.slice Ao25 t297.length co25 : Value).ownBlock ∧ some k_ ≠ (.slice Ao43 t310.length co43 : Value).ownBlock ∧ some k_ ≠ (.slice Ao50 t323.length co50 : Value).ownBlock ∧ some k_ ≠ (s_.1 : Value).ownBlock ∧ some k_ ≠ (s_.2.1 : Value).ownBlock) (.slice Ao42 t304.length co42) t304) ∧ (Kd.R (Kd.int .i64) 3 w' w.heap.size (fun k_ => some k_ ≠ (.slice Ao25 t297.length co25 : Value).ownBlock ∧ some k_ ≠ (.slice Ao42 t304.length co42 : Value).ownBlock ∧ some k_ ≠ (.slice Ao50 t323.length co50 : Value).ownBlock ∧ some k_ ≠ (s_.1 : Value).ownBlock ∧ some k_ ≠ (s_.2.1 : Value).ownBlock) (.slice Ao43 t310.length co43) t310) ∧ (Kd.R (Kd.int .i64) 3 w' w.heap.size (fun k_ => some k_ ≠ (.slice Ao25 t297.length co25 : Value).ownBlock ∧ some k_ ≠ (.slice Ao42 t304.length co42 : Value).ownBlock ∧ some k_ ≠ (.slice Ao43 t310.length co43 : Value).ownBlock ∧ some k_ ≠ (s_.1 : Value).ownBlock ∧ some k_ ≠ (s_.2.1 : Value).ownBlock) (.slice Ao50 t323.length co50) t323) ∧ (Kd.R (Kd.int .i64) 3 w' w.heap.size (fun k_ => some k_ ≠ (.slice Ao25 t297.length co25 : Value).ownBlock ∧ some k_ ≠ (.slice Ao42 t304.length co42 : Value).ownBlock ∧ some k_ ≠ (.slice Ao43 t310.length co43 : Value).ownBlock ∧ some k_ ≠ (.slice Ao50 t323.length co50 : Value).ownBlock ∧ some k_ ≠ (s_.2.1 : Value).ownBlock) s_.1 t331) ∧ (Kd.R (Kd.int .i64) 3 w' w.heap.size (fun k_ => some k_ ≠ (.slice Ao25 t297.length co25 : Value).ownBlock ∧ some k_ ≠ (.slice Ao42 t304.length co42 : Value).ownBlock ∧ some k_ ≠ (.slice Ao43 t310.length co43 : Value).ownBlock ∧ some k_ ≠ (.slice Ao50 t323.length co50 : Value).ownBlock ∧ some k_ ≠ (s_.1 : Value).ownBlock) s_.2.1 t337) ∧ (w'.heap[gb301]? = some (.cells #[.int .i64 t294, .int .i64 t295, .int .i64 t296, .slice Ao25 t297.length co25] 35 (0, 0))) ∧ (w'.heap[gb319]? = some (.cells #[.int .i64 t314, .int .i64 t315] 38 (0, 0))) ∧ (w'.heap[gb327]? = some (.cells #[.int .i64 t320, .int .i64 t321, .int .i64 t322, .slice Ao50 t323.length co50] 35 (0, 0))) ∧ (w'.heap[s_.2.2]? = some (.cells #[.int .i64 0, .int .i64 0, .int .i64 0, .slice none 0 0] 35 (0, 0))) ∧ (w.heap.size ≤ s_.2.2) ∧ (w.heap.size ≤ s_.2.2) ∧ (g293 ≠ s_.2.2) ∧ (s_.2.2 ≠ g293) ∧ (gb301 ≠ s_.2.2) ∧ (s_.2.2 ≠ gb301) ∧ (gb319 ≠ s_.2.2) ∧ (s_.2.2 ≠ gb319) ∧ (gb327 ≠ s_.2.2) ∧ (s_.2.2 ≠ gb327) ∧ (IsS53 w w' g293 t291 t318) ∧ (Below w.heap.size w w')) ?_ ?_
     rotate_left
     ·intro hCont
      refine two_ (i := 1) (j := 15) (Ni := some 49) (Nj := some 11) #[true, true, true, true, true, true, true, true, true, true, true, false, false, false, false, false, false, false] #[true, false, true, true, true, true, true, true, true, true, true, false, false, false, false, true, false, false] rfl rfl rfl rfl (two_of HT_.out (by kernel_rfl)) (by decide) (by decide) (fun K hK => ?_) (fun K hK => ?_)
      ·skip
       refine goes_ Try.func24 (by kernel_rfl) rfl #[.agg #[.int .i64 t294, .int .i64 t295, .int .i64 t296, .slice Ao25 t297.length co25]] (by rfl) rfl rfl q117_ ?_
       with_reducible refine (tilefarmlaw10_turn.calls k t294 t295 t296 _ _ t297 t328 t329 t330 t331 _ ?side1 ?side2 A11.out).mono ?_
       (case side1 => repeat (first | exact (Kd.R_reads' HO299.out).2.2 | (with_reducible refine Kd.C_alloc ?_ _) | (with_reducible refine Kd.C_drewN ?_ _) | (with_reducible refine Kd.C_drew ?_)))
       (case side2 => exact (Kd.R_reads' HO299.out).2.1)
       rintro e w53 ⟨v332, rfl, ho0, hb⟩
       refine ⟨_, rfl, ?_⟩
       have n0_ := am_ (Kd.R_elder' q170_ (Kd.R_base ho0) hb)
       have n1_ := am_ (Kd.R_elder' q171_ (Kd.R_base ho0) hb)
       have n2_ := am_ (Kd.R_elder' q172_ (Kd.R_base ho0) hb)
       have n3_ := am_ (Kd.R_elder' q173_ (Kd.R_base ho0) hb)
       have n4_ := am_ (Kd.R_lower (Kd.R_new' (Kd.R_new' (Kd.R_new' (Kd.R_new' ho0 (Kd.R_lt q170_)) (Kd.R_lt q171_)) (Kd.R_lt q172_)) (Kd.R_lt q173_)) (below_size q25_))
       have n5_ := am_ (IsS53.below q26_ hb)
       have n6_ := am_ (blk_below (g := gb301) (o := .cells #[.int .i64 t294, .int .i64 t295, .int .i64 t296, .slice Ao25 t297.length co25] 35 (0, 0)) q149_ hb)
       have n7_ := am_ (blk_below (g := gb319) (o := .cells #[.int .i64 t314, .int .i64 t315] 38 (0, 0)) q150_ hb)
       have n8_ := am_ (blk_below (g := gb327) (o := .cells #[.int .i64 t320, .int .i64 t321, .int .i64 t322, .slice Ao50 t323.length co50] 35 (0, 0)) q151_ hb)
       have n9_ := am_ (below_step q25_ hb)
       clear HO299
       clear HO306
       clear HO312
       clear HO325
       clear HI293
       clear BK301
       clear BK319
       clear BK327
       clear HB
       have HO299 := n0_
       have HO306 := n1_
       have HO312 := n2_
       have HO325 := n3_
       have HO333 := n4_
       have HI293 := n5_
       have BK301 := n6_
       have BK319 := n7_
       have BK327 := n8_
       have HB := n9_
       clear n0_ n1_ n2_ n3_ n4_ n5_ n6_ n7_ n8_ n9_
       (try clear hb)
       (try clear hb2)
       (try clear hk)
       (try clear hi)
       (try clear ho0)
       obtain ⟨Ao54, co54, eo54⟩ := Kd.R_slice HO333.out
       (first | subst eo54 | (injection eo54 with f1_ f2_ f3_; have f4_ := f1_.symm; have f5_ := f3_.symm; clear f1_ f2_ f3_; subst f4_; subst f5_))
       refine hK.out _ _ ⟨(blk_cell BK301.out 0).trans rfl, (blk_cell BK301.out 1).trans rfl, (blk_cell BK301.out 2).trans rfl, (blk_cell BK301.out 3).trans rfl, (blk_cell BK319.out 0).trans rfl, (blk_cell BK319.out 1).trans rfl⟩ (fun hHeld => ?_)
       clear hK K
       refine norm_ (a' := ?_) ?_ ?_
       rotate_left
       ·show Act.put _ (some 49) _ = _
        simp only [Act.put, List.setIfInBounds_toArray, List.set_cons_zero, List.set_cons_succ, i64_w, i32_w]
        rfl
       refine two_ (i := 11) (j := 15) (Ni := some 59) (Nj := some 11) #[true, true, true, true, true, true, true, true, true, true, true, true, false, false, false, false, false, false] #[true, true, true, true, true, true, true, true, true, true, true, false, false, false, false, true, false, false] rfl rfl rfl rfl (two_of HT_.out (by kernel_rfl)) (by decide) (by decide) (fun K hK => ?_) (fun K hK => ?_)
       ·skip
        refine goes_ Try.func20 (by kernel_rfl) rfl #[.agg #[.int .i64 t328, .int .i64 t329, .int .i64 t330, .slice Ao54 t331.length co54], .agg #[.int .i64 t314, .int .i64 t315], .slice Ao43 t310.length co43, .slice Ao42 t304.length co42, .int .i64 0, .int .i64 t317, .int .i64 255, .agg #[.int .i64 0, .int .i64 0, .int .i64 t295, .int .i64 t294]] (by rfl) rfl rfl q117_ ?_
        with_reducible refine (separable_Tile.calls k t328 t329 t330 _ _ t331 t314 t315 _ _ t310 _ _ t304 0 t317 255 0 0 t295 t294 t334 t335 t336 t337 t340 _ ?side1 ?side2 ?side3 ?side4 ?side5 ?side6 A12.out).mono ?_
        (case side1 => repeat (first | exact (Kd.R_reads' HO333.out).2.2 | (with_reducible refine Kd.C_alloc ?_ _) | (with_reducible refine Kd.C_drewN ?_ _) | (with_reducible refine Kd.C_drew ?_)))
        (case side2 => exact (Kd.R_reads' HO333.out).2.1)
        (case side3 => repeat (first | exact (Kd.R_reads' HO312.out).2.2 | (with_reducible refine Kd.C_alloc ?_ _) | (with_reducible refine Kd.C_drewN ?_ _) | (with_reducible refine Kd.C_drew ?_)))
        (case side4 => exact (Kd.R_reads' HO312.out).2.1)
        (case side5 => repeat (first | exact (Kd.R_reads' HO306.out).2.2 | (with_reducible refine Kd.C_alloc ?_ _) | (with_reducible refine Kd.C_drewN ?_ _) | (with_reducible refine Kd.C_drew ?_)))
        (case side6 => exact (Kd.R_reads' HO306.out).2.1)
        rintro e w55 ⟨v338, rfl, ho0, hb⟩
        refine ⟨_, rfl, ?_⟩
        have n0_ := am_ (Kd.R_elder' q170_ (Kd.R_base ho0) hb)
        have n1_ := am_ (Kd.R_elder' q171_ (Kd.R_base ho0) hb)
        have n2_ := am_ (Kd.R_elder' q172_ (Kd.R_base ho0) hb)
        have n3_ := am_ (Kd.R_elder' q173_ (Kd.R_base ho0) hb)
        have n4_ := am_ (Kd.R_elder' q174_ (Kd.R_base ho0) hb)
        have n5_ := am_ (Kd.R_lower (Kd.R_new' (Kd.R_new' (Kd.R_new' (Kd.R_new' (Kd.R_new' ho0 (Kd.R_lt q170_)) (Kd.R_lt q171_)) (Kd.R_lt q172_)) (Kd.R_lt q173_)) (Kd.R_lt q174_)) (below_size q25_))
        have n6_ := am_ (IsS53.below q26_ hb)
        have n7_ := am_ (blk_below (g := gb301) (o := .cells #[.int .i64 t294, .int .i64 t295, .int .i64 t296, .slice Ao25 t297.length co25] 35 (0, 0)) q149_ hb)
        have n8_ := am_ (blk_below (g := gb319) (o := .cells #[.int .i64 t314, .int .i64 t315] 38 (0, 0)) q150_ hb)
        have n9_ := am_ (blk_below (g := gb327) (o := .cells #[.int .i64 t320, .int .i64 t321, .int .i64 t322, .slice Ao50 t323.length co50] 35 (0, 0)) q151_ hb)
        have n10_ := am_ (below_step q25_ hb)
        clear HO299
        clear HO306
        clear HO312
        clear HO325
        clear HO333
        clear HI293
        clear BK301
        clear BK319
        clear BK327
        clear HB
        have HO299 := n0_
        have HO306 := n1_
        have HO312 := n2_
        have HO325 := n3_
        have HO333 := n4_
        have HO339 := n5_
        have HI293 := n6_
        have BK301 := n7_
        have BK319 := n8_
        have BK327 := n9_
        have HB := n10_
        clear n0_ n1_ n2_ n3_ n4_ n5_ n6_ n7_ n8_ n9_ n10_
        (try clear hb)
        (try clear hb2)
        (try clear hk)
        (try clear hi)
        (try clear ho0)
        refine hK.out _ _ ⟨(blk_cell BK301.out 0).trans rfl, (blk_cell BK301.out 1).trans rfl, (blk_cell BK301.out 2).trans rfl, (blk_cell BK301.out 3).trans rfl, (blk_cell BK319.out 0).trans rfl, (blk_cell BK319.out 1).trans rfl⟩ (fun hHeld => ?_)
        clear hK K
        refine norm_ (a' := ?_) ?_ ?_
        rotate_left
        ·show Act.put _ (some 59) _ = _
         simp only [Act.put, List.setIfInBounds_toArray, List.set_cons_zero, List.set_cons_succ, i64_w, i32_w]
         rfl
        refine pure_ (i := 12) (N := some 47) (v := ?_) (a' := ?_) #[true, true, true, true, true, true, true, true, true, true, true, true, true, false, false, false, false, false] rfl rfl (any_of HT_.out (by kernel_rfl)) (fun _ _ _ h => h) (Or.inl ⟨by rfl, ?_⟩) ?_ ?_
        rotate_left
        ·intro w'
         go_simp
         with_reducible rfl
        rotate_left
        ·simp only [Act.put, List.setIfInBounds_toArray, List.set_cons_zero, List.set_cons_succ, i64_w, i32_w]
         rfl
        refine pure_ (i := 13) (N := some 60) (v := ?_) (a' := ?_) #[true, true, true, true, true, true, true, true, true, true, true, true, true, true, false, false, false, false] rfl rfl (any_of HT_.out (by kernel_rfl)) (fun _ _ _ h => h) (Or.inl ⟨by rfl, ?_⟩) ?_ ?_
        rotate_left
        ·intro w'
         go_simp
         with_reducible rfl
        rotate_left
        ·simp only [Act.put, List.setIfInBounds_toArray, List.set_cons_zero, List.set_cons_succ, i64_w, i32_w]
         rfl
        refine pure_ (i := 14) (N := some 61) (v := ?_) (a' := ?_) #[true, true, true, true, true, true, true, true, true, true, true, true, true, true, true, false, false, false] rfl rfl (any_of HT_.out (by kernel_rfl)) (fun _ _ _ h => h) (Or.inl ⟨by rfl, ?_⟩) ?_ ?_
        rotate_left
        ·intro w'
         go_simp
         with_reducible rfl
        rotate_left
        ·simp only [Act.put, List.setIfInBounds_toArray, List.set_cons_zero, List.set_cons_succ, i64_w, i32_w]
         rfl
        refine one_ (i := 15) (N := some 11) #[true, true, true, true, true, true, true, true, true, true, true, true, true, true, true, true, false, false] rfl rfl (one_of HT_.out (by kernel_rfl)) (by decide) (fun K hK => ?_)
        refine box_step ?hg (N := 11) ?hd (cs := #[.int .i64 0, .int .i64 0, .int .i64 0, .slice none 0 0]) (t := 35) ?hr ?_; (case hd => rfl); (case hg => rfl); (case hr => first | (go_simp; done) | (go_simp; rfl))
        intro gb341 hg w56 hbox hb
        have n0_ := am_ (Kd.R_below q170_ hb)
        have n1_ := am_ (Kd.R_below q171_ hb)
        have n2_ := am_ (Kd.R_below q172_ hb)
        have n3_ := am_ (Kd.R_below q173_ hb)
        have n4_ := am_ (Kd.R_below q174_ hb)
        have n5_ := am_ (Kd.R_below q175_ hb)
        have n6_ := am_ (IsS53.below q26_ hb)
        have n7_ := am_ (blk_below (g := gb301) (o := .cells #[.int .i64 t294, .int .i64 t295, .int .i64 t296, .slice Ao25 t297.length co25] 35 (0, 0)) q149_ hb)
        have n8_ := am_ (blk_below (g := gb319) (o := .cells #[.int .i64 t314, .int .i64 t315] 38 (0, 0)) q150_ hb)
        have n9_ := am_ (blk_below (g := gb327) (o := .cells #[.int .i64 t320, .int .i64 t321, .int .i64 t322, .slice Ao50 t323.length co50] 35 (0, 0)) q151_ hb)
        have n10_ := am_ (below_step q25_ hb)
        have n11_ := am_ (hbox)
        have n12_ := am_ ((q9_ : w.heap.size ≤ gb341))
        have n13_ := am_ ((q9_ : w.heap.size ≤ gb341))
        have n14_ := am_ ((q21_ : gb301 ≠ gb341))
        have n15_ := am_ ((q22_ : gb341 ≠ gb301))
        have n16_ := am_ ((q51_ : gb319 ≠ gb341))
        have n17_ := am_ ((q52_ : gb341 ≠ gb319))
        have n18_ := am_ ((q23_ : gb327 ≠ gb341))
        have n19_ := am_ ((q24_ : gb341 ≠ gb327))
        have n20_ := am_ ((q2_ : g293 ≠ gb341))
        have n21_ := am_ ((q3_ : gb341 ≠ g293))
        clear HO299
        clear HO306
        clear HO312
        clear HO325
        clear HO333
        clear HO339
        clear HI293
        clear BK301
        clear BK319
        clear BK327
        clear HB
        have HO299 := n0_
        have HO306 := n1_
        have HO312 := n2_
        have HO325 := n3_
        have HO333 := n4_
        have HO339 := n5_
        have HI293 := n6_
        have BK301 := n7_
        have BK319 := n8_
        have BK327 := n9_
        have HB := n10_
        have BK341 := n11_
        have GW341 := n12_
        have GE341 := n13_
        have NB301_341 := n14_
        have NB341_301 := n15_
        have NB319_341 := n16_
        have NB341_319 := n17_
        have NB327_341 := n18_
        have NB341_327 := n19_
        have NB293_341 := n20_
        have NB341_293 := n21_
        clear n0_ n1_ n2_ n3_ n4_ n5_ n6_ n7_ n8_ n9_ n10_ n11_ n12_ n13_ n14_ n15_ n16_ n17_ n18_ n19_ n20_ n21_
        clear hb hbox hg
        refine hK.out _ _ ⟨(blk_cell BK301.out 0).trans rfl, (blk_cell BK301.out 1).trans rfl, (blk_cell BK301.out 2).trans rfl, (blk_cell BK301.out 3).trans rfl, (blk_cell BK319.out 0).trans rfl, (blk_cell BK319.out 1).trans rfl⟩ (fun hHeld => ?_)
        clear hK K
        refine norm_ (a' := ?_) ?_ ?_
        rotate_left
        ·show Act.put _ (some 11) _ = _
         simp only [Act.put, List.setIfInBounds_toArray, List.set_cons_zero, List.set_cons_succ, i64_w, i32_w]
         rfl
        exact norm_ q178_ (hCont (.slice Ao54 t331.length co54, v338, gb341) _ ⟨hHeld, q85_, q86_, q87_, q88_, q83_, q84_, q149_, q150_, q151_, q152_, GW341.out, GE341.out, NB293_341.out, NB341_293.out, NB301_341.out, NB341_301.out, NB319_341.out, NB341_319.out, NB327_341.out, NB341_327.out, q8_, q10_⟩)
       ·skip
        refine box_step ?hg (N := 11) ?hd (cs := #[.int .i64 0, .int .i64 0, .int .i64 0, .slice none 0 0]) (t := 35) ?hr ?_; (case hd => rfl); (case hg => rfl); (case hr => first | (go_simp; done) | (go_simp; rfl))
        intro gb341 hg w54 hbox hb
        have n0_ := am_ (Kd.R_below q170_ hb)
        have n1_ := am_ (Kd.R_below q171_ hb)
        have n2_ := am_ (Kd.R_below q172_ hb)
        have n3_ := am_ (Kd.R_below q173_ hb)
        have n4_ := am_ (Kd.R_below q174_ hb)
        have n5_ := am_ (IsS53.below q26_ hb)
        have n6_ := am_ (blk_below (g := gb301) (o := .cells #[.int .i64 t294, .int .i64 t295, .int .i64 t296, .slice Ao25 t297.length co25] 35 (0, 0)) q149_ hb)
        have n7_ := am_ (blk_below (g := gb319) (o := .cells #[.int .i64 t314, .int .i64 t315] 38 (0, 0)) q150_ hb)
        have n8_ := am_ (blk_below (g := gb327) (o := .cells #[.int .i64 t320, .int .i64 t321, .int .i64 t322, .slice Ao50 t323.length co50] 35 (0, 0)) q151_ hb)
        have n9_ := am_ (below_step q25_ hb)
        have n10_ := am_ (hbox)
        have n11_ := am_ ((q9_ : w.heap.size ≤ gb341))
        have n12_ := am_ ((q9_ : w.heap.size ≤ gb341))
        have n13_ := am_ ((q21_ : gb301 ≠ gb341))
        have n14_ := am_ ((q22_ : gb341 ≠ gb301))
        have n15_ := am_ ((q51_ : gb319 ≠ gb341))
        have n16_ := am_ ((q52_ : gb341 ≠ gb319))
        have n17_ := am_ ((q23_ : gb327 ≠ gb341))
        have n18_ := am_ ((q24_ : gb341 ≠ gb327))
        have n19_ := am_ ((q2_ : g293 ≠ gb341))
        have n20_ := am_ ((q3_ : gb341 ≠ g293))
        clear HO299
        clear HO306
        clear HO312
        clear HO325
        clear HO333
        clear HI293
        clear BK301
        clear BK319
        clear BK327
        clear HB
        have HO299 := n0_
        have HO306 := n1_
        have HO312 := n2_
        have HO325 := n3_
        have HO333 := n4_
        have HI293 := n5_
        have BK301 := n6_
        have BK319 := n7_
        have BK327 := n8_
        have HB := n9_
        have BK341 := n10_
        have GW341 := n11_
        have GE341 := n12_
        have NB301_341 := n13_
        have NB341_301 := n14_
        have NB319_341 := n15_
        have NB341_319 := n16_
        have NB327_341 := n17_
        have NB341_327 := n18_
        have NB293_341 := n19_
        have NB341_293 := n20_
        clear n0_ n1_ n2_ n3_ n4_ n5_ n6_ n7_ n8_ n9_ n10_ n11_ n12_ n13_ n14_ n15_ n16_ n17_ n18_ n19_ n20_
        clear hb hbox hg
        obtain ⟨Ao55, co55, eo55⟩ := Kd.R_slice HO333.out
        (first | subst eo55 | (injection eo55 with f1_ f2_ f3_; have f4_ := f1_.symm; have f5_ := f3_.symm; clear f1_ f2_ f3_; subst f4_; subst f5_))
        refine hK.out _ _ ⟨(blk_cell BK301.out 0).trans rfl, (blk_cell BK301.out 1).trans rfl, (blk_cell BK301.out 2).trans rfl, (blk_cell BK301.out 3).trans rfl, (blk_cell BK319.out 0).trans rfl, (blk_cell BK319.out 1).trans rfl⟩ (fun hHeld => ?_)
        clear hK K
        refine norm_ (a' := ?_) ?_ ?_
        rotate_left
        ·show Act.put _ (some 11) _ = _
         simp only [Act.put, List.setIfInBounds_toArray, List.set_cons_zero, List.set_cons_succ, i64_w, i32_w]
         rfl
        refine one_ (i := 11) (N := some 59) #[true, true, true, true, true, true, true, true, true, true, true, true, false, false, false, true, false, false] rfl rfl (one_of HT_.out (by kernel_rfl)) (by decide) (fun K hK => ?_)
        refine goes_ Try.func20 (by kernel_rfl) rfl #[.agg #[.int .i64 t328, .int .i64 t329, .int .i64 t330, .slice Ao55 t331.length co55], .agg #[.int .i64 t314, .int .i64 t315], .slice Ao43 t310.length co43, .slice Ao42 t304.length co42, .int .i64 0, .int .i64 t317, .int .i64 255, .agg #[.int .i64 0, .int .i64 0, .int .i64 t295, .int .i64 t294]] (by rfl) rfl rfl q117_ ?_
        with_reducible refine (separable_Tile.calls k t328 t329 t330 _ _ t331 t314 t315 _ _ t310 _ _ t304 0 t317 255 0 0 t295 t294 t334 t335 t336 t337 t340 _ ?side1 ?side2 ?side3 ?side4 ?side5 ?side6 A12.out).mono ?_
        (case side1 => repeat (first | exact (Kd.R_reads' HO333.out).2.2 | (with_reducible refine Kd.C_alloc ?_ _) | (with_reducible refine Kd.C_drewN ?_ _) | (with_reducible refine Kd.C_drew ?_)))
        (case side2 => exact (Kd.R_reads' HO333.out).2.1)
        (case side3 => repeat (first | exact (Kd.R_reads' HO312.out).2.2 | (with_reducible refine Kd.C_alloc ?_ _) | (with_reducible refine Kd.C_drewN ?_ _) | (with_reducible refine Kd.C_drew ?_)))
        (case side4 => exact (Kd.R_reads' HO312.out).2.1)
        (case side5 => repeat (first | exact (Kd.R_reads' HO306.out).2.2 | (with_reducible refine Kd.C_alloc ?_ _) | (with_reducible refine Kd.C_drewN ?_ _) | (with_reducible refine Kd.C_drew ?_)))
        (case side6 => exact (Kd.R_reads' HO306.out).2.1)
        rintro e w56 ⟨v338, rfl, ho0, hb⟩
        refine ⟨_, rfl, ?_⟩
        have n0_ := am_ (Kd.R_elder' q170_ (Kd.R_base ho0) hb)
        have n1_ := am_ (Kd.R_elder' q171_ (Kd.R_base ho0) hb)
        have n2_ := am_ (Kd.R_elder' q172_ (Kd.R_base ho0) hb)
        have n3_ := am_ (Kd.R_elder' q173_ (Kd.R_base ho0) hb)
        have n4_ := am_ (Kd.R_elder' q174_ (Kd.R_base ho0) hb)
        have n5_ := am_ (Kd.R_lower (Kd.R_new' (Kd.R_new' (Kd.R_new' (Kd.R_new' (Kd.R_new' ho0 (Kd.R_lt q170_)) (Kd.R_lt q171_)) (Kd.R_lt q172_)) (Kd.R_lt q173_)) (Kd.R_lt q174_)) (below_size q10_))
        have n6_ := am_ (IsS53.below q8_ hb)
        have n7_ := am_ (blk_below (g := gb301) (o := .cells #[.int .i64 t294, .int .i64 t295, .int .i64 t296, .slice Ao25 t297.length co25] 35 (0, 0)) q149_ hb)
        have n8_ := am_ (blk_below (g := gb319) (o := .cells #[.int .i64 t314, .int .i64 t315] 38 (0, 0)) q150_ hb)
        have n9_ := am_ (blk_below (g := gb327) (o := .cells #[.int .i64 t320, .int .i64 t321, .int .i64 t322, .slice Ao50 t323.length co50] 35 (0, 0)) q151_ hb)
        have n10_ := am_ (blk_below (g := gb341) (o := .cells #[.int .i64 0, .int .i64 0, .int .i64 0, .slice none 0 0] 35 (0, 0)) q152_ hb)
        have n11_ := am_ (below_step q10_ hb)
        clear HO299
        clear HO306
        clear HO312
        clear HO325
        clear HO333
        clear HI293
        clear BK301
        clear BK319
        clear BK327
        clear BK341
        clear HB
        have HO299 := n0_
        have HO306 := n1_
        have HO312 := n2_
        have HO325 := n3_
        have HO333 := n4_
        have HO339 := n5_
        have HI293 := n6_
        have BK301 := n7_
        have BK319 := n8_
        have BK327 := n9_
        have BK341 := n10_
        have HB := n11_
        clear n0_ n1_ n2_ n3_ n4_ n5_ n6_ n7_ n8_ n9_ n10_ n11_
        (try clear hb)
        (try clear hb2)
        (try clear hk)
        (try clear hi)
        (try clear ho0)
        refine hK.out _ _ ⟨(blk_cell BK301.out 0).trans rfl, (blk_cell BK301.out 1).trans rfl, (blk_cell BK301.out 2).trans rfl, (blk_cell BK301.out 3).trans rfl, (blk_cell BK319.out 0).trans rfl, (blk_cell BK319.out 1).trans rfl⟩ (fun hHeld => ?_)
        clear hK K
        refine norm_ (a' := ?_) ?_ ?_
        rotate_left
        ·show Act.put _ (some 59) _ = _
         simp only [Act.put, List.setIfInBounds_toArray, List.set_cons_zero, List.set_cons_succ, i64_w, i32_w]
         rfl
        refine pure_ (i := 12) (N := some 47) (v := ?_) (a' := ?_) #[true, true, true, true, true, true, true, true, true, true, true, true, true, false, false, true, false, false] rfl rfl (any_of HT_.out (by kernel_rfl)) (fun _ _ _ h => h) (Or.inl ⟨by rfl, ?_⟩) ?_ ?_
        rotate_left
        ·intro w'
         go_simp
         with_reducible rfl
        rotate_left
        ·simp only [Act.put, List.setIfInBounds_toArray, List.set_cons_zero, List.set_cons_succ, i64_w, i32_w]
         rfl
        refine pure_ (i := 13) (N := some 60) (v := ?_) (a' := ?_) #[true, true, true, true, true, true, true, true, true, true, true, true, true, true, false, true, false, false] rfl rfl (any_of HT_.out (by kernel_rfl)) (fun _ _ _ h => h) (Or.inl ⟨by rfl, ?_⟩) ?_ ?_
        rotate_left
        ·intro w'
         go_simp
         with_reducible rfl
        rotate_left
        ·simp only [Act.put, List.setIfInBounds_toArray, List.set_cons_zero, List.set_cons_succ, i64_w, i32_w]
         rfl
        refine pure_ (i := 14) (N := some 61) (v := ?_) (a' := ?_) #[true, true, true, true, true, true, true, true, true, true, true, true, true, true, true, true, false, false] rfl rfl (any_of HT_.out (by kernel_rfl)) (fun _ _ _ h => h) (Or.inl ⟨by rfl, ?_⟩) ?_ ?_
        rotate_left
        ·intro w'
         go_simp
         with_reducible rfl
        rotate_left
        ·simp only [Act.put, List.setIfInBounds_toArray, List.set_cons_zero, List.set_cons_succ, i64_w, i32_w]
         rfl
        exact norm_ q178_ (hCont (.slice Ao55 t331.length co55, v338, gb341) _ ⟨hHeld, q85_, q86_, q87_, q88_, q83_, q84_, q149_, q150_, q151_, q152_, GW341.out, GE341.out, NB293_341.out, NB341_293.out, NB301_341.out, NB341_301.out, NB319_341.out, NB341_319.out, NB327_341.out, NB341_327.out, q8_, q10_⟩)
      ·skip
       refine box_step ?hg (N := 11) ?hd (cs := #[.int .i64 0, .int .i64 0, .int .i64 0, .slice none 0 0]) (t := 35) ?hr ?_; (case hd => rfl); (case hg => rfl); (case hr => first | (go_simp; done) | (go_simp; rfl))
       intro gb341 hg w53 hbox hb
       have n0_ := am_ (Kd.R_below q170_ hb)
       have n1_ := am_ (Kd.R_below q171_ hb)
       have n2_ := am_ (Kd.R_below q172_ hb)
       have n3_ := am_ (Kd.R_below q173_ hb)
       have n4_ := am_ (IsS53.below q26_ hb)
       have n5_ := am_ (blk_below (g := gb301) (o := .cells #[.int .i64 t294, .int .i64 t295, .int .i64 t296, .slice Ao25 t297.length co25] 35 (0, 0)) q149_ hb)
       have n6_ := am_ (blk_below (g := gb319) (o := .cells #[.int .i64 t314, .int .i64 t315] 38 (0, 0)) q150_ hb)
       have n7_ := am_ (blk_below (g := gb327) (o := .cells #[.int .i64 t320, .int .i64 t321, .int .i64 t322, .slice Ao50 t323.length co50] 35 (0, 0)) q151_ hb)
       have n8_ := am_ (below_step q25_ hb)
       have n9_ := am_ (hbox)
       have n10_ := am_ ((q9_ : w.heap.size ≤ gb341))
       have n11_ := am_ ((q9_ : w.heap.size ≤ gb341))
       have n12_ := am_ ((q21_ : gb301 ≠ gb341))
       have n13_ := am_ ((q22_ : gb341 ≠ gb301))
       have n14_ := am_ ((q51_ : gb319 ≠ gb341))
       have n15_ := am_ ((q52_ : gb341 ≠ gb319))
       have n16_ := am_ ((q23_ : gb327 ≠ gb341))
       have n17_ := am_ ((q24_ : gb341 ≠ gb327))
       have n18_ := am_ ((q2_ : g293 ≠ gb341))
       have n19_ := am_ ((q3_ : gb341 ≠ g293))
       clear HO299
       clear HO306
       clear HO312
       clear HO325
       clear HI293
       clear BK301
       clear BK319
       clear BK327
       clear HB
       have HO299 := n0_
       have HO306 := n1_
       have HO312 := n2_
       have HO325 := n3_
       have HI293 := n4_
       have BK301 := n5_
       have BK319 := n6_
       have BK327 := n7_
       have HB := n8_
       have BK341 := n9_
       have GW341 := n10_
       have GE341 := n11_
       have NB301_341 := n12_
       have NB341_301 := n13_
       have NB319_341 := n14_
       have NB341_319 := n15_
       have NB327_341 := n16_
       have NB341_327 := n17_
       have NB293_341 := n18_
       have NB341_293 := n19_
       clear n0_ n1_ n2_ n3_ n4_ n5_ n6_ n7_ n8_ n9_ n10_ n11_ n12_ n13_ n14_ n15_ n16_ n17_ n18_ n19_
       clear hb hbox hg
       refine hK.out _ _ ⟨(blk_cell BK301.out 0).trans rfl, (blk_cell BK301.out 1).trans rfl, (blk_cell BK301.out 2).trans rfl, (blk_cell BK301.out 3).trans rfl, (blk_cell BK319.out 0).trans rfl, (blk_cell BK319.out 1).trans rfl⟩ (fun hHeld => ?_)
       clear hK K
       refine norm_ (a' := ?_) ?_ ?_
       rotate_left
       ·show Act.put _ (some 11) _ = _
        simp only [Act.put, List.setIfInBounds_toArray, List.set_cons_zero, List.set_cons_succ, i64_w, i32_w]
        rfl
       refine one_ (i := 1) (N := some 49) #[true, true, true, true, true, true, true, true, true, true, true, false, false, false, false, true, false, false] rfl rfl (one_of HT_.out (by kernel_rfl)) (by decide) (fun K hK => ?_)
       refine goes_ Try.func24 (by kernel_rfl) rfl #[.agg #[.int .i64 t294, .int .i64 t295, .int .i64 t296, .slice Ao25 t297.length co25]] (by rfl) rfl rfl q117_ ?_
       with_reducible refine (tilefarmlaw10_turn.calls k t294 t295 t296 _ _ t297 t328 t329 t330 t331 _ ?side1 ?side2 A11.out).mono ?_
       (case side1 => repeat (first | exact (Kd.R_reads' HO299.out).2.2 | (with_reducible refine Kd.C_alloc ?_ _) | (with_reducible refine Kd.C_drewN ?_ _) | (with_reducible refine Kd.C_drew ?_)))
       (case side2 => exact (Kd.R_reads' HO299.out).2.1)
       rintro e w54 ⟨v332, rfl, ho0, hb⟩
       refine ⟨_, rfl, ?_⟩
       have n0_ := am_ (Kd.R_elder' q170_ (Kd.R_base ho0) hb)
       have n1_ := am_ (Kd.R_elder' q171_ (Kd.R_base ho0) hb)
       have n2_ := am_ (Kd.R_elder' q172_ (Kd.R_base ho0) hb)
       have n3_ := am_ (Kd.R_elder' q173_ (Kd.R_base ho0) hb)
       have n4_ := am_ (Kd.R_lower (Kd.R_new' (Kd.R_new' (Kd.R_new' (Kd.R_new' ho0 (Kd.R_lt q170_)) (Kd.R_lt q171_)) (Kd.R_lt q172_)) (Kd.R_lt q173_)) (below_size q10_))
       have n5_ := am_ (IsS53.below q8_ hb)
       have n6_ := am_ (blk_below (g := gb301) (o := .cells #[.int .i64 t294, .int .i64 t295, .int .i64 t296, .slice Ao25 t297.length co25] 35 (0, 0)) q149_ hb)
       have n7_ := am_ (blk_below (g := gb319) (o := .cells #[.int .i64 t314, .int .i64 t315] 38 (0, 0)) q150_ hb)
       have n8_ := am_ (blk_below (g := gb327) (o := .cells #[.int .i64 t320, .int .i64 t321, .int .i64 t322, .slice Ao50 t323.length co50] 35 (0, 0)) q151_ hb)
       have n9_ := am_ (blk_below (g := gb341) (o := .cells #[.int .i64 0, .int .i64 0, .int .i64 0, .slice none 0 0] 35 (0, 0)) q152_ hb)
       have n10_ := am_ (below_step q10_ hb)
       clear HO299
       clear HO306
       clear HO312
       clear HO325
       clear HI293
       clear BK301
       clear BK319
       clear BK327
       clear BK341
       clear HB
       have HO299 := n0_
       have HO306 := n1_
       have HO312 := n2_
       have HO325 := n3_
       have HO333 := n4_
       have HI293 := n5_
       have BK301 := n6_
       have BK319 := n7_
       have BK327 := n8_
       have BK341 := n9_
       have HB := n10_
       clear n0_ n1_ n2_ n3_ n4_ n5_ n6_ n7_ n8_ n9_ n10_
       (try clear hb)
       (try clear hb2)
       (try clear hk)
       (try clear hi)
       (try clear ho0)
       obtain ⟨Ao55, co55, eo55⟩ := Kd.R_slice HO333.out
       (first | subst eo55 | (injection eo55 with f1_ f2_ f3_; have f4_ := f1_.symm; have f5_ := f3_.symm; clear f1_ f2_ f3_; subst f4_; subst f5_))
       refine hK.out _ _ ⟨(blk_cell BK301.out 0).trans rfl, (blk_cell BK301.out 1).trans rfl, (blk_cell BK301.out 2).trans rfl, (blk_cell BK301.out 3).trans rfl, (blk_cell BK319.out 0).trans rfl, (blk_cell BK319.out 1).trans rfl⟩ (fun hHeld => ?_)
       clear hK K
       refine norm_ (a' := ?_) ?_ ?_
       rotate_left
       ·show Act.put _ (some 49) _ = _
        simp only [Act.put, List.setIfInBounds_toArray, List.set_cons_zero, List.set_cons_succ, i64_w, i32_w]
        rfl
       refine one_ (i := 11) (N := some 59) #[true, true, true, true, true, true, true, true, true, true, true, true, false, false, false, true, false, false] rfl rfl (one_of HT_.out (by kernel_rfl)) (by decide) (fun K hK => ?_)
       refine goes_ Try.func20 (by kernel_rfl) rfl #[.agg #[.int .i64 t328, .int .i64 t329, .int .i64 t330, .slice Ao55 t331.length co55], .agg #[.int .i64 t314, .int .i64 t315], .slice Ao43 t310.length co43, .slice Ao42 t304.length co42, .int .i64 0, .int .i64 t317, .int .i64 255, .agg #[.int .i64 0, .int .i64 0, .int .i64 t295, .int .i64 t294]] (by rfl) rfl rfl q117_ ?_
       with_reducible refine (separable_Tile.calls k t328 t329 t330 _ _ t331 t314 t315 _ _ t310 _ _ t304 0 t317 255 0 0 t295 t294 t334 t335 t336 t337 t340 _ ?side1 ?side2 ?side3 ?side4 ?side5 ?side6 A12.out).mono ?_
       (case side1 => repeat (first | exact (Kd.R_reads' HO333.out).2.2 | (with_reducible refine Kd.C_alloc ?_ _) | (with_reducible refine Kd.C_drewN ?_ _) | (with_reducible refine Kd.C_drew ?_)))
       (case side2 => exact (Kd.R_reads' HO333.out).2.1)
       (case side3 => repeat (first | exact (Kd.R_reads' HO312.out).2.2 | (with_reducible refine Kd.C_alloc ?_ _) | (with_reducible refine Kd.C_drewN ?_ _) | (with_reducible refine Kd.C_drew ?_)))
       (case side4 => exact (Kd.R_reads' HO312.out).2.1)
       (case side5 => repeat (first | exact (Kd.R_reads' HO306.out).2.2 | (with_reducible refine Kd.C_alloc ?_ _) | (with_reducible refine Kd.C_drewN ?_ _) | (with_reducible refine Kd.C_drew ?_)))
       (case side6 => exact (Kd.R_reads' HO306.out).2.1)
       rintro e w56 ⟨v338, rfl, ho0, hb⟩
       refine ⟨_, rfl, ?_⟩
       have n0_ := am_ (Kd.R_elder' q170_ (Kd.R_base ho0) hb)
       have n1_ := am_ (Kd.R_elder' q171_ (Kd.R_base ho0) hb)
       have n2_ := am_ (Kd.R_elder' q172_ (Kd.R_base ho0) hb)
       have n3_ := am_ (Kd.R_elder' q173_ (Kd.R_base ho0) hb)
       have n4_ := am_ (Kd.R_elder' q174_ (Kd.R_base ho0) hb)
       have n5_ := am_ (Kd.R_lower (Kd.R_new' (Kd.R_new' (Kd.R_new' (Kd.R_new' (Kd.R_new' ho0 (Kd.R_lt q170_)) (Kd.R_lt q171_)) (Kd.R_lt q172_)) (Kd.R_lt q173_)) (Kd.R_lt q174_)) (below_size q10_))
       have n6_ := am_ (IsS53.below q8_ hb)
       have n7_ := am_ (blk_below (g := gb301) (o := .cells #[.int .i64 t294, .int .i64 t295, .int .i64 t296, .slice Ao25 t297.length co25] 35 (0, 0)) q149_ hb)
       have n8_ := am_ (blk_below (g := gb319) (o := .cells #[.int .i64 t314, .int .i64 t315] 38 (0, 0)) q150_ hb)
       have n9_ := am_ (blk_below (g := gb327) (o := .cells #[.int .i64 t320, .int .i64 t321, .int .i64 t322, .slice Ao50 t323.length co50] 35 (0, 0)) q151_ hb)
       have n10_ := am_ (blk_below (g := gb341) (o := .cells #[.int .i64 0, .int .i64 0, .int .i64 0, .slice none 0 0] 35 (0, 0)) q152_ hb)
       have n11_ := am_ (below_step q10_ hb)
       clear HO299
       clear HO306
       clear HO312
       clear HO325
       clear HO333
       clear HI293
       clear BK301
       clear BK319
       clear BK327
       clear BK341
       clear HB
       have HO299 := n0_
       have HO306 := n1_
       have HO312 := n2_
       have HO325 := n3_
       have HO333 := n4_
       have HO339 := n5_
       have HI293 := n6_
       have BK301 := n7_
       have BK319 := n8_
       have BK327 := n9_
       have BK341 := n10_
       have HB := n11_
       clear n0_ n1_ n2_ n3_ n4_ n5_ n6_ n7_ n8_ n9_ n10_ n11_
       (try clear hb)
       (try clear hb2)
       (try clear hk)
       (try clear hi)
       (try clear ho0)
       refine hK.out _ _ ⟨(blk_cell BK301.out 0).trans rfl, (blk_cell BK301.out 1).trans rfl, (blk_cell BK301.out 2).trans rfl, (blk_cell BK301.out 3).trans rfl, (blk_cell BK319.out 0).trans rfl, (blk_cell BK319.out 1).trans rfl⟩ (fun hHeld => ?_)
       clear hK K
       refine norm_ (a' := ?_) ?_ ?_
       rotate_left
       ·show Act.put _ (some 59) _ = _
        simp only [Act.put, List.setIfInBounds_toArray, List.set_cons_zero, List.set_cons_succ, i64_w, i32_w]
        rfl
       refine pure_ (i := 12) (N := some 47) (v := ?_) (a' := ?_) #[true, true, true, true, true, true, true, true, true, true, true, true, true, false, false, true, false, false] rfl rfl (any_of HT_.out (by kernel_rfl)) (fun _ _ _ h => h) (Or.inl ⟨by rfl, ?_⟩) ?_ ?_
       rotate_left
       ·intro w'
        go_simp
        with_reducible rfl
       rotate_left
       ·simp only [Act.put, List.setIfInBounds_toArray, List.set_cons_zero, List.set_cons_succ, i64_w, i32_w]
        rfl
       refine pure_ (i := 13) (N := some 60) (v := ?_) (a' := ?_) #[true, true, true, true, true, true, true, true, true, true, true, true, true, true, false, true, false, false] rfl rfl (any_of HT_.out (by kernel_rfl)) (fun _ _ _ h => h) (Or.inl ⟨by rfl, ?_⟩) ?_ ?_
       rotate_left
       ·intro w'
        go_simp
        with_reducible rfl
       rotate_left
       ·simp only [Act.put, List.setIfInBounds_toArray, List.set_cons_zero, List.set_cons_succ, i64_w, i32_w]
        rfl
       refine pure_ (i := 14) (N := some 61) (v := ?_) (a' := ?_) #[true, true, true, true, true, true, true, true, true, true, true, true, true, true, true, true, false, false] rfl rfl (any_of HT_.out (by kernel_rfl)) (fun _ _ _ h => h) (Or.inl ⟨by rfl, ?_⟩) ?_ ?_
       rotate_left
       ·intro w'
        go_simp
        with_reducible rfl
       rotate_left
       ·simp only [Act.put, List.setIfInBounds_toArray, List.set_cons_zero, List.set_cons_succ, i64_w, i32_w]
        rfl
       exact norm_ q178_ (hCont (.slice Ao55 t331.length co55, v338, gb341) _ ⟨hHeld, q85_, q86_, q87_, q88_, q83_, q84_, q149_, q150_, q151_, q152_, GW341.out, GE341.out, NB293_341.out, NB341_293.out, NB301_341.out, NB341_301.out, NB319_341.out, NB341_319.out, NB327_341.out, NB341_327.out, q8_, q10_⟩)
     rintro ⟨v332, v338, gb341⟩ w57 ⟨hS_, h0_, h1_, h2_, h3_, h4_, h5_, h6_, h7_, h8_, h9_, h10_, h11_, h12_, h13_, h14_, h15_, h16_, h17_, h18_, h19_, h20_, h21_⟩
     have n0_ : Aside0 (Kd.R (Kd.int .i64) 3 w57 w.heap.size (fun k_ => some k_ ≠ (.slice Ao42 t304.length co42 : Value).ownBlock ∧ some k_ ≠ (.slice Ao43 t310.length co43 : Value).ownBlock ∧ some k_ ≠ (.slice Ao50 t323.length co50 : Value).ownBlock ∧ some k_ ≠ (v332 : Value).ownBlock ∧ some k_ ≠ (v338 : Value).ownBlock) (.slice Ao25 t297.length co25) t297) := ⟨h0_⟩
     have n1_ : Aside0 (Kd.R (Kd.int .i64) 3 w57 w.heap.size (fun k_ => some k_ ≠ (.slice Ao25 t297.length co25 : Value).ownBlock ∧ some k_ ≠ (.slice Ao43 t310.length co43 : Value).ownBlock ∧ some k_ ≠ (.slice Ao50 t323.length co50 : Value).ownBlock ∧ some k_ ≠ (v332 : Value).ownBlock ∧ some k_ ≠ (v338 : Value).ownBlock) (.slice Ao42 t304.length co42) t304) := ⟨h1_⟩
     have n2_ : Aside0 (Kd.R (Kd.int .i64) 3 w57 w.heap.size (fun k_ => some k_ ≠ (.slice Ao25 t297.length co25 : Value).ownBlock ∧ some k_ ≠ (.slice Ao42 t304.length co42 : Value).ownBlock ∧ some k_ ≠ (.slice Ao50 t323.length co50 : Value).ownBlock ∧ some k_ ≠ (v332 : Value).ownBlock ∧ some k_ ≠ (v338 : Value).ownBlock) (.slice Ao43 t310.length co43) t310) := ⟨h2_⟩
     have n3_ : Aside0 (Kd.R (Kd.int .i64) 3 w57 w.heap.size (fun k_ => some k_ ≠ (.slice Ao25 t297.length co25 : Value).ownBlock ∧ some k_ ≠ (.slice Ao42 t304.length co42 : Value).ownBlock ∧ some k_ ≠ (.slice Ao43 t310.length co43 : Value).ownBlock ∧ some k_ ≠ (v332 : Value).ownBlock ∧ some k_ ≠ (v338 : Value).ownBlock) (.slice Ao50 t323.length co50) t323) := ⟨h3_⟩
     have n4_ : Aside0 (Kd.R (Kd.int .i64) 3 w57 w.heap.size (fun k_ => some k_ ≠ (.slice Ao25 t297.length co25 : Value).ownBlock ∧ some k_ ≠ (.slice Ao42 t304.length co42 : Value).ownBlock ∧ some k_ ≠ (.slice Ao43 t310.length co43 : Value).ownBlock ∧ some k_ ≠ (.slice Ao50 t323.length co50 : Value).ownBlock ∧ some k_ ≠ (v338 : Value).ownBlock) v332 t331) := ⟨h4_⟩
     have n5_ : Aside0 (Kd.R (Kd.int .i64) 3 w57 w.heap.size (fun k_ => some k_ ≠ (.slice Ao25 t297.length co25 : Value).ownBlock ∧ some k_ ≠ (.slice Ao42 t304.length co42 : Value).ownBlock ∧ some k_ ≠ (.slice Ao43 t310.length co43 : Value).ownBlock ∧ some k_ ≠ (.slice Ao50 t323.length co50 : Value).ownBlock ∧ some k_ ≠ (v332 : Value).ownBlock) v338 t337) := ⟨h5_⟩
     have n6_ : Aside0 (w57.heap[gb301]? = some (.cells #[.int .i64 t294, .int .i64 t295, .int .i64 t296, .slice Ao25 t297.length co25] 35 (0, 0))) := ⟨h6_⟩
     have n7_ : Aside0 (w57.heap[gb319]? = some (.cells #[.int .i64 t314, .int .i64 t315] 38 (0, 0))) := ⟨h7_⟩
     have n8_ : Aside0 (w57.heap[gb327]? = some (.cells #[.int .i64 t320, .int .i64 t321, .int .i64 t322, .slice Ao50 t323.length co50] 35 (0, 0))) := ⟨h8_⟩
     have n9_ : Aside0 (w57.heap[gb341]? = some (.cells #[.int .i64 0, .int .i64 0, .int .i64 0, .slice none 0 0] 35 (0, 0))) := ⟨h9_⟩
     have n10_ : Aside0 (w.heap.size ≤ gb341) := ⟨h10_⟩
     have n11_ : Aside0 (w.heap.size ≤ gb341) := ⟨h11_⟩
     have n12_ : Aside0 (g293 ≠ gb341) := ⟨h12_⟩
     have n13_ : Aside0 (gb341 ≠ g293) := ⟨h13_⟩
     have n14_ : Aside0 (gb301 ≠ gb341) := ⟨h14_⟩
     have n15_ : Aside0 (gb341 ≠ gb301) := ⟨h15_⟩
     have n16_ : Aside0 (gb319 ≠ gb341) := ⟨h16_⟩
     have n17_ : Aside0 (gb341 ≠ gb319) := ⟨h17_⟩
     have n18_ : Aside0 (gb327 ≠ gb341) := ⟨h18_⟩
     have n19_ : Aside0 (gb341 ≠ gb327) := ⟨h19_⟩
     have n20_ : Aside0 (IsS53 w w57 g293 t291 t318) := ⟨h20_⟩
     have n21_ : Aside0 (Below w.heap.size w w57) := ⟨h21_⟩
     clear HO299
     clear HO306
     clear HO312
     clear HO325
     clear BK301
     clear BK319
     clear BK327
     clear HI293
     clear HB
     clear h0_ h1_ h2_ h3_ h4_ h5_ h6_ h7_ h8_ h9_ h10_ h11_ h12_ h13_ h14_ h15_ h16_ h17_ h18_ h19_ h20_ h21_
     have HO299 := n0_
     have HO306 := n1_
     have HO312 := n2_
     have HO325 := n3_
     have HO333 := n4_
     have HO339 := n5_
     have BK301 := n6_
     have BK319 := n7_
     have BK327 := n8_
     have BK341 := n9_
     have GW341 := n10_
     have GE341 := n11_
     have NB293_341 := n12_
     have NB341_293 := n13_
     have NB301_341 := n14_
     have NB341_301 := n15_
     have NB319_341 := n16_
     have NB341_319 := n17_
     have NB327_341 := n18_
     have NB341_327 := n19_
     have HI293 := n20_
     have HB := n21_
     clear n0_ n1_ n2_ n3_ n4_ n5_ n6_ n7_ n8_ n9_ n10_ n11_ n12_ n13_ n14_ n15_ n16_ n17_ n18_ n19_ n20_ n21_
     have hHeld : w57.cell? ⟨gb301, 0, none⟩ = some (.int .i64 t294) ∧ w57.cell? ⟨gb301, 1, none⟩ = some (.int .i64 t295) ∧ w57.cell? ⟨gb301, 2, none⟩ = some (.int .i64 t296) ∧ w57.cell? ⟨gb301, 3, none⟩ = some (.slice Ao25 t297.length co25) ∧ w57.cell? ⟨gb319, 0, none⟩ = some (.int .i64 t314) ∧ w57.cell? ⟨gb319, 1, none⟩ = some (.int .i64 t315) := hS_
     obtain ⟨Ao61, co61, eo61⟩ := Kd.R_slice HO339.out
     (first | subst eo61 | (injection eo61 with f1_ f2_ f3_; have f4_ := f1_.symm; have f5_ := f3_.symm; clear f1_ f2_ f3_; subst f4_; subst f5_))
     refine norm_ (a' := ?_) ?_ ?_
     rotate_left
     ·simp only [putAll, Act.put, List.setIfInBounds_toArray, List.set_cons_zero, List.set_cons_succ]
      rfl
     refine one_ (i := 16) (N := none) #[true, true, true, true, true, true, true, true, true, true, true, true, true, true, true, true, true, false] rfl rfl (one_of HT_.out (by kernel_rfl)) (by decide) (fun K hK => ?_)
     have hs58 : w57.cell? ⟨gb341, 0, none⟩ = some (.int .i64 0) := (blk_cell BK341.out 0).trans rfl
     have hfs58 := blk_frozen BK341.out 0
     have hns58_0 := NB301_341.out
     have hns58_1 := NB319_341.out
     have hns58_2 := NB327_341.out
     have hms58_0 := NB341_301.out
     have hms58_1 := NB341_319.out
     have hms58_2 := NB341_327.out
     have hs59 : w57.cell? ⟨gb341, 1, none⟩ = some (.int .i64 0) := (blk_cell BK341.out 1).trans rfl
     have hfs59 := blk_frozen BK341.out 1
     have hns59_0 := NB301_341.out
     have hns59_1 := NB319_341.out
     have hns59_2 := NB327_341.out
     have hms59_0 := NB341_301.out
     have hms59_1 := NB341_319.out
     have hms59_2 := NB341_327.out
     have hs60 : w57.cell? ⟨gb341, 2, none⟩ = some (.int .i64 0) := (blk_cell BK341.out 2).trans rfl
     have hfs60 := blk_frozen BK341.out 2
     have hns60_0 := NB301_341.out
     have hns60_1 := NB319_341.out
     have hns60_2 := NB327_341.out
     have hms60_0 := NB341_301.out
     have hms60_1 := NB341_319.out
     have hms60_2 := NB341_327.out
     have hs62 : w57.cell? ⟨gb341, 3, none⟩ = some (.slice none 0 0) := (blk_cell BK341.out 3).trans rfl
     have hfs62 := blk_frozen BK341.out 3
     have hns62_0 := NB301_341.out
     have hns62_1 := NB319_341.out
     have hns62_2 := NB327_341.out
     have hms62_0 := NB341_301.out
     have hms62_1 := NB341_319.out
     have hms62_2 := NB341_327.out
     refine skip_ (w1 := ?_) (by rfl) rfl ?_ ?_
     rotate_left
     ·go_simp
      rfl
     refine hK.out _ _ ⟨((cell_far (p := ⟨gb341, _, none⟩) NB301_341.out _).trans (((cell_far (p := ⟨gb341, _, none⟩) NB301_341.out _).trans (((cell_far (p := ⟨gb341, _, none⟩) NB301_341.out _).trans (((cell_far (p := ⟨gb341, _, none⟩) NB301_341.out _).trans (hHeld.1)))))))), ((cell_far (p := ⟨gb341, _, none⟩) NB301_341.out _).trans (((cell_far (p := ⟨gb341, _, none⟩) NB301_341.out _).trans (((cell_far (p := ⟨gb341, _, none⟩) NB301_341.out _).trans (((cell_far (p := ⟨gb341, _, none⟩) NB301_341.out _).trans (hHeld.2.1)))))))), ((cell_far (p := ⟨gb341, _, none⟩) NB301_341.out _).trans (((cell_far (p := ⟨gb341, _, none⟩) NB301_341.out _).trans (((cell_far (p := ⟨gb341, _, none⟩) NB301_341.out _).trans (((cell_far (p := ⟨gb341, _, none⟩) NB301_341.out _).trans (hHeld.2.2.1)))))))), ((cell_far (p := ⟨gb341, _, none⟩) NB301_341.out _).trans (((cell_far (p := ⟨gb341, _, none⟩) NB301_341.out _).trans (((cell_far (p := ⟨gb341, _, none⟩) NB301_341.out _).trans (((cell_far (p := ⟨gb341, _, none⟩) NB301_341.out _).trans (hHeld.2.2.2.1)))))))), ((cell_far (p := ⟨gb341, _, none⟩) NB319_341.out _).trans (((cell_far (p := ⟨gb341, _, none⟩) NB319_341.out _).trans (((cell_far (p := ⟨gb341, _, none⟩) NB319_341.out _).trans (((cell_far (p := ⟨gb341, _, none⟩) NB319_341.out _).trans (hHeld.2.2.2.2.1)))))))), ((cell_far (p := ⟨gb341, _, none⟩) NB319_341.out _).trans (((cell_far (p := ⟨gb341, _, none⟩) NB319_341.out _).trans (((cell_far (p := ⟨gb341, _, none⟩) NB319_341.out _).trans (((cell_far (p := ⟨gb341, _, none⟩) NB319_341.out _).trans (hHeld.2.2.2.2.2))))))))⟩ (fun hHeld => ?_)
     clear hK K
     refine pure_ (i := 17) (N := some 12) (v := ?_) (a' := ?_) #[true, true, true, true, true, true, true, true, true, true, true, true, true, true, true, true, true, true] rfl rfl (any_of HT_.out (by kernel_rfl)) (fun _ _ _ h => h) (Or.inl ⟨by rfl, ?_⟩) ?_ ?_
     rotate_left
     ·intro w'
      go_simp
      with_reducible rfl
     rotate_left
     ·simp only [Act.put, List.setIfInBounds_toArray, List.set_cons_zero, List.set_cons_succ, i64_w, i32_w]
      rfl
     refine done_ (done_of HT_.out (by kernel_rfl)) ?_
     try go_wp2
     have n0_ : Aside0 (Kd.R (Kd.int .i64) 3 ((((w57.setCell ⟨gb341, 0, none⟩ (.int .i64 t334)).setCell ⟨gb341, 1, none⟩ (.int .i64 t335)).setCell ⟨gb341, 2, none⟩ (.int .i64 t336)).setCell ⟨gb341, 3, none⟩ (.slice Ao61 t337.length co61)) w.heap.size (fun k_ => some k_ ≠ (.slice Ao42 t304.length co42 : Value).ownBlock ∧ some k_ ≠ (.slice Ao43 t310.length co43 : Value).ownBlock ∧ some k_ ≠ (.slice Ao50 t323.length co50 : Value).ownBlock ∧ some k_ ≠ (v332 : Value).ownBlock ∧ some k_ ≠ (.slice Ao61 t337.length co61 : Value).ownBlock) (.slice Ao25 t297.length co25) t297) := ⟨by (with_reducible repeat (first | apply Kd.R_alloc | apply Kd.R_drewN | apply Kd.R_drew)); exact Kd.R_mono (Kd.R_far (p := ⟨gb341, 3, none⟩) (Kd.R_far (p := ⟨gb341, 2, none⟩) (Kd.R_far (p := ⟨gb341, 1, none⟩) (Kd.R_far (p := ⟨gb341, 0, none⟩) (Kd.R_types HO299.out BK341.out (by decide)) (fun _ hk => hk.2) (.int .i64 t334)) (fun _ hk => hk.2) (.int .i64 t335)) (fun _ hk => hk.2) (.int .i64 t336)) (fun _ hk => hk.2) (.slice Ao61 t337.length co61)) (fun _ hk => ⟨hk.1.1, ⟨hk.1.2.1, ⟨hk.1.2.2.1, ⟨hk.1.2.2.2.1, hk.1.2.2.2.2⟩⟩⟩⟩)⟩
     have n1_ : Aside0 (Kd.R (Kd.int .i64) 3 ((((w57.setCell ⟨gb341, 0, none⟩ (.int .i64 t334)).setCell ⟨gb341, 1, none⟩ (.int .i64 t335)).setCell ⟨gb341, 2, none⟩ (.int .i64 t336)).setCell ⟨gb341, 3, none⟩ (.slice Ao61 t337.length co61)) w.heap.size (fun k_ => some k_ ≠ (.slice Ao25 t297.length co25 : Value).ownBlock ∧ some k_ ≠ (.slice Ao43 t310.length co43 : Value).ownBlock ∧ some k_ ≠ (.slice Ao50 t323.length co50 : Value).ownBlock ∧ some k_ ≠ (v332 : Value).ownBlock ∧ some k_ ≠ (.slice Ao61 t337.length co61 : Value).ownBlock) (.slice Ao42 t304.length co42) t304) := ⟨by (with_reducible repeat (first | apply Kd.R_alloc | apply Kd.R_drewN | apply Kd.R_drew)); exact Kd.R_mono (Kd.R_far (p := ⟨gb341, 3, none⟩) (Kd.R_far (p := ⟨gb341, 2, none⟩) (Kd.R_far (p := ⟨gb341, 1, none⟩) (Kd.R_far (p := ⟨gb341, 0, none⟩) (Kd.R_types HO306.out BK341.out (by decide)) (fun _ hk => hk.2) (.int .i64 t334)) (fun _ hk => hk.2) (.int .i64 t335)) (fun _ hk => hk.2) (.int .i64 t336)) (fun _ hk => hk.2) (.slice Ao61 t337.length co61)) (fun _ hk => ⟨hk.1.1, ⟨hk.1.2.1, ⟨hk.1.2.2.1, ⟨hk.1.2.2.2.1, hk.1.2.2.2.2⟩⟩⟩⟩)⟩
     have n2_ : Aside0 (Kd.R (Kd.int .i64) 3 ((((w57.setCell ⟨gb341, 0, none⟩ (.int .i64 t334)).setCell ⟨gb341, 1, none⟩ (.int .i64 t335)).setCell ⟨gb341, 2, none⟩ (.int .i64 t336)).setCell ⟨gb341, 3, none⟩ (.slice Ao61 t337.length co61)) w.heap.size (fun k_ => some k_ ≠ (.slice Ao25 t297.length co25 : Value).ownBlock ∧ some k_ ≠ (.slice Ao42 t304.length co42 : Value).ownBlock ∧ some k_ ≠ (.slice Ao50 t323.length co50 : Value).ownBlock ∧ some k_ ≠ (v332 : Value).ownBlock ∧ some k_ ≠ (.slice Ao61 t337.length co61 : Value).ownBlock) (.slice Ao43 t310.length co43) t310) := ⟨by (with_reducible repeat (first | apply Kd.R_alloc | apply Kd.R_drewN | apply Kd.R_drew)); exact Kd.R_mono (Kd.R_far (p := ⟨gb341, 3, none⟩) (Kd.R_far (p := ⟨gb341, 2, none⟩) (Kd.R_far (p := ⟨gb341, 1, none⟩) (Kd.R_far (p := ⟨gb341, 0, none⟩) (Kd.R_types HO312.out BK341.out (by decide)) (fun _ hk => hk.2) (.int .i64 t334)) (fun _ hk => hk.2) (.int .i64 t335)) (fun _ hk => hk.2) (.int .i64 t336)) (fun _ hk => hk.2) (.slice Ao61 t337.length co61)) (fun _ hk => ⟨hk.1.1, ⟨hk.1.2.1, ⟨hk.1.2.2.1, ⟨hk.1.2.2.2.1, hk.1.2.2.2.2⟩⟩⟩⟩)⟩
     have n3_ : Aside0 (Kd.R (Kd.int .i64) 3 ((((w57.setCell ⟨gb341, 0, none⟩ (.int .i64 t334)).setCell ⟨gb341, 1, none⟩ (.int .i64 t335)).setCell ⟨gb341, 2, none⟩ (.int .i64 t336)).setCell ⟨gb341, 3, none⟩ (.slice Ao61 t337.length co61)) w.heap.size (fun k_ => some k_ ≠ (.slice Ao25 t297.length co25 : Value).ownBlock ∧ some k_ ≠ (.slice Ao42 t304.length co42 : Value).ownBlock ∧ some k_ ≠ (.slice Ao43 t310.length co43 : Value).ownBlock ∧ some k_ ≠ (v332 : Value).ownBlock ∧ some k_ ≠ (.slice Ao61 t337.length co61 : Value).ownBlock) (.slice Ao50 t323.length co50) t323) := ⟨by (with_reducible repeat (first | apply Kd.R_alloc | apply Kd.R_drewN | apply Kd.R_drew)); exact Kd.R_mono (Kd.R_far (p := ⟨gb341, 3, none⟩) (Kd.R_far (p := ⟨gb341, 2, none⟩) (Kd.R_far (p := ⟨gb341, 1, none⟩) (Kd.R_far (p := ⟨gb341, 0, none⟩) (Kd.R_types HO325.out BK341.out (by decide)) (fun _ hk => hk.2) (.int .i64 t334)) (fun _ hk => hk.2) (.int .i64 t335)) (fun _ hk => hk.2) (.int .i64 t336)) (fun _ hk => hk.2) (.slice Ao61 t337.length co61)) (fun _ hk => ⟨hk.1.1, ⟨hk.1.2.1, ⟨hk.1.2.2.1, ⟨hk.1.2.2.2.1, hk.1.2.2.2.2⟩⟩⟩⟩)⟩
     have n4_ : Aside0 (Kd.R (Kd.int .i64) 3 ((((w57.setCell ⟨gb341, 0, none⟩ (.int .i64 t334)).setCell ⟨gb341, 1, none⟩ (.int .i64 t335)).setCell ⟨gb341, 2, none⟩ (.int .i64 t336)).setCell ⟨gb341, 3, none⟩ (.slice Ao61 t337.length co61)) w.heap.size (fun k_ => some k_ ≠ (.slice Ao25 t297.length co25 : Value).ownBlock ∧ some k_ ≠ (.slice Ao42 t304.length co42 : Value).ownBlock ∧ some k_ ≠ (.slice Ao43 t310.length co43 : Value).ownBlock ∧ some k_ ≠ (.slice Ao50 t323.length co50 : Value).ownBlock ∧ some k_ ≠ (.slice Ao61 t337.length co61 : Value).ownBlock) v332 t331) := ⟨by (with_reducible repeat (first | apply Kd.R_alloc | apply Kd.R_drewN | apply Kd.R_drew)); exact Kd.R_mono (Kd.R_far (p := ⟨gb341, 3, none⟩) (Kd.R_far (p := ⟨gb341, 2, none⟩) (Kd.R_far (p := ⟨gb341, 1, none⟩) (Kd.R_far (p := ⟨gb341, 0, none⟩) (Kd.R_types HO333.out BK341.out (by decide)) (fun _ hk => hk.2) (.int .i64 t334)) (fun _ hk => hk.2) (.int .i64 t335)) (fun _ hk => hk.2) (.int .i64 t336)) (fun _ hk => hk.2) (.slice Ao61 t337.length co61)) (fun _ hk => ⟨hk.1.1, ⟨hk.1.2.1, ⟨hk.1.2.2.1, ⟨hk.1.2.2.2.1, hk.1.2.2.2.2⟩⟩⟩⟩)⟩
     have n5_ : Aside0 (Kd.R (Kd.int .i64) 3 ((((w57.setCell ⟨gb341, 0, none⟩ (.int .i64 t334)).setCell ⟨gb341, 1, none⟩ (.int .i64 t335)).setCell ⟨gb341, 2, none⟩ (.int .i64 t336)).setCell ⟨gb341, 3, none⟩ (.slice Ao61 t337.length co61)) w.heap.size (fun k_ => some k_ ≠ (.slice Ao25 t297.length co25 : Value).ownBlock ∧ some k_ ≠ (.slice Ao42 t304.length co42 : Value).ownBlock ∧ some k_ ≠ (.slice Ao43 t310.length co43 : Value).ownBlock ∧ some k_ ≠ (.slice Ao50 t323.length co50 : Value).ownBlock ∧ some k_ ≠ (v332 : Value).ownBlock) (.slice Ao61 t337.length co61) t337) := ⟨by (with_reducible repeat (first | apply Kd.R_alloc | apply Kd.R_drewN | apply Kd.R_drew)); exact Kd.R_mono (Kd.R_far (p := ⟨gb341, 3, none⟩) (Kd.R_far (p := ⟨gb341, 2, none⟩) (Kd.R_far (p := ⟨gb341, 1, none⟩) (Kd.R_far (p := ⟨gb341, 0, none⟩) (Kd.R_types HO339.out BK341.out (by decide)) (fun _ hk => hk.2) (.int .i64 t334)) (fun _ hk => hk.2) (.int .i64 t335)) (fun _ hk => hk.2) (.int .i64 t336)) (fun _ hk => hk.2) (.slice Ao61 t337.length co61)) (fun _ hk => ⟨hk.1.1, ⟨hk.1.2.1, ⟨hk.1.2.2.1, ⟨hk.1.2.2.2.1, hk.1.2.2.2.2⟩⟩⟩⟩)⟩
     have n6_ : Aside0 (((((w57.setCell ⟨gb341, 0, none⟩ (.int .i64 t334)).setCell ⟨gb341, 1, none⟩ (.int .i64 t335)).setCell ⟨gb341, 2, none⟩ (.int .i64 t336)).setCell ⟨gb341, 3, none⟩ (.slice Ao61 t337.length co61)).heap[gb301]? = some (.cells #[.int .i64 t294, .int .i64 t295, .int .i64 t296, .slice Ao25 t297.length co25] 35 (0, 0))) := ⟨by (with_reducible repeat (first | refine blk_drewN ?_ _ | refine blk_drew ?_ | refine blk_alloc ?_ _)); refine blk_far ?_ NB301_341.out _; (with_reducible repeat (first | refine blk_drewN ?_ _ | refine blk_drew ?_ | refine blk_alloc ?_ _)); refine blk_far ?_ NB301_341.out _; (with_reducible repeat (first | refine blk_drewN ?_ _ | refine blk_drew ?_ | refine blk_alloc ?_ _)); refine blk_far ?_ NB301_341.out _; (with_reducible repeat (first | refine blk_drewN ?_ _ | refine blk_drew ?_ | refine blk_alloc ?_ _)); refine blk_far ?_ NB301_341.out _; (with_reducible repeat (first | refine blk_drewN ?_ _ | refine blk_drew ?_ | refine blk_alloc ?_ _)); exact BK301.out⟩
     have n7_ : Aside0 (((((w57.setCell ⟨gb341, 0, none⟩ (.int .i64 t334)).setCell ⟨gb341, 1, none⟩ (.int .i64 t335)).setCell ⟨gb341, 2, none⟩ (.int .i64 t336)).setCell ⟨gb341, 3, none⟩ (.slice Ao61 t337.length co61)).heap[gb319]? = some (.cells #[.int .i64 t314, .int .i64 t315] 38 (0, 0))) := ⟨by (with_reducible repeat (first | refine blk_drewN ?_ _ | refine blk_drew ?_ | refine blk_alloc ?_ _)); refine blk_far ?_ NB319_341.out _; (with_reducible repeat (first | refine blk_drewN ?_ _ | refine blk_drew ?_ | refine blk_alloc ?_ _)); refine blk_far ?_ NB319_341.out _; (with_reducible repeat (first | refine blk_drewN ?_ _ | refine blk_drew ?_ | refine blk_alloc ?_ _)); refine blk_far ?_ NB319_341.out _; (with_reducible repeat (first | refine blk_drewN ?_ _ | refine blk_drew ?_ | refine blk_alloc ?_ _)); refine blk_far ?_ NB319_341.out _; (with_reducible repeat (first | refine blk_drewN ?_ _ | refine blk_drew ?_ | refine blk_alloc ?_ _)); exact BK319.out⟩
     have n8_ : Aside0 (((((w57.setCell ⟨gb341, 0, none⟩ (.int .i64 t334)).setCell ⟨gb341, 1, none⟩ (.int .i64 t335)).setCell ⟨gb341, 2, none⟩ (.int .i64 t336)).setCell ⟨gb341, 3, none⟩ (.slice Ao61 t337.length co61)).heap[gb327]? = some (.cells #[.int .i64 t320, .int .i64 t321, .int .i64 t322, .slice Ao50 t323.length co50] 35 (0, 0))) := ⟨by (with_reducible repeat (first | refine blk_drewN ?_ _ | refine blk_drew ?_ | refine blk_alloc ?_ _)); refine blk_far ?_ NB327_341.out _; (with_reducible repeat (first | refine blk_drewN ?_ _ | refine blk_drew ?_ | refine blk_alloc ?_ _)); refine blk_far ?_ NB327_341.out _; (with_reducible repeat (first | refine blk_drewN ?_ _ | refine blk_drew ?_ | refine blk_alloc ?_ _)); refine blk_far ?_ NB327_341.out _; (with_reducible repeat (first | refine blk_drewN ?_ _ | refine blk_drew ?_ | refine blk_alloc ?_ _)); refine blk_far ?_ NB327_341.out _; (with_reducible repeat (first | refine blk_drewN ?_ _ | refine blk_drew ?_ | refine blk_alloc ?_ _)); exact BK327.out⟩
     have n9_ : Aside0 (((((w57.setCell ⟨gb341, 0, none⟩ (.int .i64 t334)).setCell ⟨gb341, 1, none⟩ (.int .i64 t335)).setCell ⟨gb341, 2, none⟩ (.int .i64 t336)).setCell ⟨gb341, 3, none⟩ (.slice Ao61 t337.length co61)).heap[gb341]? = some (.cells #[.int .i64 t334, .int .i64 t335, .int .i64 t336, .slice Ao61 t337.length co61] 35 (0, 0))) := ⟨by (with_reducible repeat (first | refine blk_drewN ?_ _ | refine blk_drew ?_ | refine blk_alloc ?_ _)); refine blk_put (cs := #[.int .i64 t334, .int .i64 t335, .int .i64 t336, .slice none 0 0]) ?_ 3 _ rfl; (with_reducible repeat (first | refine blk_drewN ?_ _ | refine blk_drew ?_ | refine blk_alloc ?_ _)); refine blk_put (cs := #[.int .i64 t334, .int .i64 t335, .int .i64 0, .slice none 0 0]) ?_ 2 _ rfl; (with_reducible repeat (first | refine blk_drewN ?_ _ | refine blk_drew ?_ | refine blk_alloc ?_ _)); refine blk_put (cs := #[.int .i64 t334, .int .i64 0, .int .i64 0, .slice none 0 0]) ?_ 1 _ rfl; (with_reducible repeat (first | refine blk_drewN ?_ _ | refine blk_drew ?_ | refine blk_alloc ?_ _)); refine blk_put (cs := #[.int .i64 0, .int .i64 0, .int .i64 0, .slice none 0 0]) ?_ 0 _ rfl; (with_reducible repeat (first | refine blk_drewN ?_ _ | refine blk_drew ?_ | refine blk_alloc ?_ _)); exact BK341.out⟩
     have n10_ : Aside0 (IsS53 w ((((w57.setCell ⟨gb341, 0, none⟩ (.int .i64 t334)).setCell ⟨gb341, 1, none⟩ (.int .i64 t335)).setCell ⟨gb341, 2, none⟩ (.int .i64 t336)).setCell ⟨gb341, 3, none⟩ (.slice Ao61 t337.length co61)) g293 t291 t318) := ⟨q8_⟩
     have n11_ : Aside0 (Below w.heap.size w ((((w57.setCell ⟨gb341, 0, none⟩ (.int .i64 t334)).setCell ⟨gb341, 1, none⟩ (.int .i64 t335)).setCell ⟨gb341, 2, none⟩ (.int .i64 t336)).setCell ⟨gb341, 3, none⟩ (.slice Ao61 t337.length co61))) := ⟨q10_⟩
     (try clear HO299)
     (try clear HO306)
     (try clear HO312)
     (try clear HO325)
     (try clear HO333)
     (try clear HO339)
     (try clear BK301)
     (try clear BK319)
     (try clear BK327)
     (try clear BK341)
     (try clear HI293)
     (try clear HB)
     generalize ((((w57.setCell ⟨gb341, 0, none⟩ (.int .i64 t334)).setCell ⟨gb341, 1, none⟩ (.int .i64 t335)).setCell ⟨gb341, 2, none⟩ (.int .i64 t336)).setCell ⟨gb341, 3, none⟩ (.slice Ao61 t337.length co61)) = w63 at n0_ n1_ n2_ n3_ n4_ n5_ n6_ n7_ n8_ n9_ n10_ n11_ ⊢
     have HO299 := n0_
     have HO306 := n1_
     have HO312 := n2_
     have HO325 := n3_
     have HO333 := n4_
     have HO339 := n5_
     have BK301 := n6_
     have BK319 := n7_
     have BK327 := n8_
     have BK341 := n9_
     have HI293 := n10_
     have HB := n11_
     clear n0_ n1_ n2_ n3_ n4_ n5_ n6_ n7_ n8_ n9_ n10_ n11_
     have n0_ := am_ (Kd.R_drew HO299.out)
     have n1_ := am_ (Kd.R_drew HO306.out)
     have n2_ := am_ (Kd.R_drew HO312.out)
     have n3_ := am_ (Kd.R_drew HO325.out)
     have n4_ := am_ (Kd.R_drew HO333.out)
     have n5_ := am_ (Kd.R_drew HO339.out)
     have n6_ := am_ (blk_drew BK301.out)
     have n7_ := am_ (blk_drew BK319.out)
     have n8_ := am_ (blk_drew BK327.out)
     have n9_ := am_ (blk_drew BK341.out)
     have n10_ := am_ (IsS53.drew HI293.out)
     have n11_ := am_ (below_drew1 HB.out)
     clear HO299
     clear HO306
     clear HO312
     clear HO325
     clear HO333
     clear HO339
     clear BK301
     clear BK319
     clear BK327
     clear BK341
     clear HI293
     clear HB
     have HO299 := n0_
     have HO306 := n1_
     have HO312 := n2_
     have HO325 := n3_
     have HO333 := n4_
     have HO339 := n5_
     have BK301 := n6_
     have BK319 := n7_
     have BK327 := n8_
     have BK341 := n9_
     have HI293 := n10_
     have HB := n11_
     clear n0_ n1_ n2_ n3_ n4_ n5_ n6_ n7_ n8_ n9_ n10_ n11_
     refine start_ (n := 27) (S := fun w' => w'.cell? ⟨gb327, 0, none⟩ = some (.int .i64 t320) ∧ w'.cell? ⟨gb327, 1, none⟩ = some (.int .i64 t321) ∧ w'.cell? ⟨gb327, 2, none⟩ = some (.int .i64 t322) ∧ w'.cell? ⟨gb327, 3, none⟩ = some (.slice Ao50 t323.length co50) ∧ w'.cell? ⟨gb301, 0, none⟩ = some (.int .i64 t294) ∧ w'.cell? ⟨gb301, 1, none⟩ = some (.int .i64 t295) ∧ w'.cell? ⟨gb301, 2, none⟩ = some (.int .i64 t296) ∧ w'.cell? ⟨gb301, 3, none⟩ = some (.slice Ao25 t297.length co25) ∧ w'.cell? ⟨gb341, 0, none⟩ = some (.int .i64 t334) ∧ w'.cell? ⟨gb341, 1, none⟩ = some (.int .i64 t335) ∧ w'.cell? ⟨gb341, 2, none⟩ = some (.int .i64 t336) ∧ w'.cell? ⟨gb341, 3, none⟩ = some (.slice Ao61 t337.length co61)) (ds := []) #[false, false, false, false, false, false, false, false, false, false, false, false, false, false, false, false, false, false, false, false, false, false, false, false, false, false, false] (by kernel_rfl) rfl rfl ⟨(blk_cell BK327.out 0).trans rfl, (blk_cell BK327.out 1).trans rfl, (blk_cell BK327.out 2).trans rfl, (blk_cell BK327.out 3).trans rfl, (blk_cell BK301.out 0).trans rfl, (blk_cell BK301.out 1).trans rfl, (blk_cell BK301.out 2).trans rfl, (blk_cell BK301.out 3).trans rfl, (blk_cell BK341.out 0).trans rfl, (blk_cell BK341.out 1).trans rfl, (blk_cell BK341.out 2).trans rfl, (blk_cell BK341.out 3).trans rfl⟩ (fun hHeld => ?_); refine with_tabW tilefarmlaw10_SeparableTurns.tab6 tilefarmlaw10_SeparableTurns.bits6 (fun HT_ HW_ => ?_)
     generalize w63.drew = w64 at HO299 HO306 HO312 HO325 HO333 HO339 BK301 BK319 BK327 BK341 HI293 HB hHeld ⊢
     refine pure_ (i := 0) (N := some 62) (v := ?_) (a' := ?_) #[true, false, false, false, false, false, false, false, false, false, false, false, false, false, false, false, false, false, false, false, false, false, false, false, false, false, false] rfl rfl (any_of HT_.out (by kernel_rfl)) (fun _ _ _ h => h) (Or.inl ⟨by rfl, ?_⟩) ?_ ?_
     rotate_left
     ·intro w'
      go_simp
      with_reducible rfl
     rotate_left
     ·simp only [Act.put, List.setIfInBounds_toArray, List.set_cons_zero, List.set_cons_succ, i64_w, i32_w]
      rfl
     refine pure_ (i := 1) (N := some 63) (v := ?_) (a' := ?_) #[true, true, false, false, false, false, false, false, false, false, false, false, false, false, false, false, false, false, false, false, false, false, false, false, false, false, false] rfl rfl (any_of HT_.out (by kernel_rfl)) (fun _ _ _ h => h) (Or.inl ⟨by rfl, ?_⟩) ?_ ?_
     rotate_left
     ·intro w'
      go_simp
      with_reducible rfl
     rotate_left
     ·simp only [Act.put, List.setIfInBounds_toArray, List.set_cons_zero, List.set_cons_succ, i64_w, i32_w]
      rfl
     refine pure_ (i := 2) (N := some 64) (v := ?_) (a' := ?_) #[true, true, true, false, false, false, false, false, false, false, false, false, false, false, false, false, false, false, false, false, false, false, false, false, false, false, false] rfl rfl (any_of HT_.out (by kernel_rfl)) (fun _ _ _ h => h) (Or.inl ⟨by rfl, ?_⟩) ?_ ?_
     rotate_left
     ·intro w'
      go_simp
      with_reducible rfl
     rotate_left
     ·simp only [Act.put, List.setIfInBounds_toArray, List.set_cons_zero, List.set_cons_succ, i64_w, i32_w]
      rfl
     refine pure_ (i := 3) (N := some 65) (v := ?_) (a' := ?_) #[true, true, true, true, false, false, false, false, false, false, false, false, false, false, false, false, false, false, false, false, false, false, false, false, false, false, false] rfl rfl (any_of HT_.out (by kernel_rfl)) (fun _ _ _ h => h) (Or.inl ⟨by rfl, ?_⟩) ?_ ?_
     rotate_left
     ·intro w'
      go_simp
      with_reducible rfl
     rotate_left
     ·simp only [Act.put, List.setIfInBounds_toArray, List.set_cons_zero, List.set_cons_succ, i64_w, i32_w]
      rfl
     refine pure_ (i := 4) (N := some 66) (v := ?_) (a' := ?_) #[true, true, true, true, true, false, false, false, false, false, false, false, false, false, false, false, false, false, false, false, false, false, false, false, false, false, false] rfl rfl (any_of HT_.out (by kernel_rfl)) (fun _ _ _ h => h) (Or.inl ⟨by rfl, ?_⟩) ?_ ?_
     rotate_left
     ·intro w'
      go_simp
      with_reducible rfl
     rotate_left
     ·simp only [Act.put, List.setIfInBounds_toArray, List.set_cons_zero, List.set_cons_succ, i64_w, i32_w]
      rfl
     refine pure_ (i := 5) (N := some 67) (v := ?_) (a' := ?_) #[true, true, true, true, true, true, false, false, false, false, false, false, false, false, false, false, false, false, false, false, false, false, false, false, false, false, false] rfl rfl (any_of HT_.out (by kernel_rfl)) (fun _ _ _ h => h) (Or.inl ⟨by rfl, ?_⟩) ?_ ?_
     rotate_left
     ·intro w'
      go_simp
      with_reducible rfl
     rotate_left
     ·simp only [Act.put, List.setIfInBounds_toArray, List.set_cons_zero, List.set_cons_succ, i64_w, i32_w]
      rfl
     refine pure_ (i := 6) (N := some 68) (v := ?_) (a' := ?_) #[true, true, true, true, true, true, true, false, false, false, false, false, false, false, false, false, false, false, false, false, false, false, false, false, false, false, false] rfl rfl (any_of HT_.out (by kernel_rfl)) (fun _ _ _ h => h) (Or.inl ⟨by rfl, ?_⟩) ?_ ?_
     rotate_left
     ·intro w'
      go_simp
      with_reducible rfl
     rotate_left
     ·simp only [Act.put, List.setIfInBounds_toArray, List.set_cons_zero, List.set_cons_succ, i64_w, i32_w]
      rfl
     refine pure_ (i := 7) (N := some 69) (v := ?_) (a' := ?_) #[true, true, true, true, true, true, true, true, false, false, false, false, false, false, false, false, false, false, false, false, false, false, false, false, false, false, false] rfl rfl (any_of HT_.out (by kernel_rfl)) (fun _ _ _ h => h) (Or.inl ⟨by rfl, ?_⟩) ?_ ?_
     rotate_left
     ·intro w'
      go_simp
      with_reducible rfl
     rotate_left
     ·simp only [Act.put, List.setIfInBounds_toArray, List.set_cons_zero, List.set_cons_succ, i64_w, i32_w]
      rfl
     refine pure_ (i := 10) (N := some 72) (v := ?_) (a' := ?_) #[true, true, true, true, true, true, true, true, false, false, true, false, false, false, false, false, false, false, false, false, false, false, false, false, false, false, false] rfl rfl (any_of HT_.out (by kernel_rfl)) (fun _ _ _ h => h) (Or.inl ⟨by rfl, ?_⟩) ?_ ?_
     rotate_left
     ·intro w'
      go_simp
      with_reducible rfl
     rotate_left
     ·simp only [Act.put, List.setIfInBounds_toArray, List.set_cons_zero, List.set_cons_succ, i64_w, i32_w]
      rfl
     refine pure_ (i := 12) (N := some 74) (v := ?_) (a' := ?_) #[true, true, true, true, true, true, true, true, false, false, true, false, true, false, false, false, false, false, false, false, false, false, false, false, false, false, false] rfl rfl (any_of HT_.out (by kernel_rfl)) (fun _ _ _ h => h) (Or.inl ⟨by rfl, ?_⟩) ?_ ?_
     rotate_left
     ·intro w'
      go_simp
      with_reducible rfl
     rotate_left
     ·simp only [Act.put, List.setIfInBounds_toArray, List.set_cons_zero, List.set_cons_succ, i64_w, i32_w]
      rfl
     refine take_ (i := 8) (N := some 70) (v := ?_) (a' := ?_) #[true, true, true, true, true, true, true, true, true, false, true, false, true, false, false, false, false, false, false, false, false, false, false, false, false, false, false] rfl rfl (take_ofW HT_.out HW_.out (by kernel_rfl)) (fun _ _ _ h => h) (Or.inl ⟨by rfl, ?_⟩) hHeld ?_ ?_
     rotate_left
     ·rintro w' ⟨s0, s1, s2, s3, s4, s5, s6, s7, s8, s9, s10, s11⟩
      go_simp
      with_reducible rfl
     rotate_left
     ·simp only [Act.put, List.setIfInBounds_toArray, List.set_cons_zero, List.set_cons_succ, i64_w, i32_w]
      rfl
     refine pure_ (i := 9) (N := some 71) (v := ?_) (a' := ?_) #[true, true, true, true, true, true, true, true, true, true, true, false, true, false, false, false, false, false, false, false, false, false, false, false, false, false, false] rfl rfl (any_of HT_.out (by kernel_rfl)) (fun _ _ _ h => h) (Or.inl ⟨by rfl, ?_⟩) ?_ ?_
     rotate_left
     ·intro w'
      go_simp
      with_reducible rfl
     rotate_left
     ·simp only [Act.put, List.setIfInBounds_toArray, List.set_cons_zero, List.set_cons_succ, i64_w, i32_w]
      rfl
     refine take_ (i := 11) (N := some 73) (v := ?_) (a' := ?_) #[true, true, true, true, true, true, true, true, true, true, true, true, true, false, false, false, false, false, false, false, false, false, false, false, false, false, false] rfl rfl (take_ofW HT_.out HW_.out (by kernel_rfl)) (fun _ _ _ h => h) (Or.inl ⟨by rfl, ?_⟩) hHeld ?_ ?_
     rotate_left
     ·rintro w' ⟨s0, s1, s2, s3, s4, s5, s6, s7, s8, s9, s10, s11⟩
      go_simp
      with_reducible rfl
     rotate_left
     ·simp only [Act.put, List.setIfInBounds_toArray, List.set_cons_zero, List.set_cons_succ, i64_w, i32_w]
      rfl
     refine take_ (i := 13) (N := some 75) (v := ?_) (a' := ?_) #[true, true, true, true, true, true, true, true, true, true, true, true, true, true, false, false, false, false, false, false, false, false, false, false, false, false, false] rfl rfl (take_ofW HT_.out HW_.out (by kernel_rfl)) (fun _ _ _ h => h) (Or.inl ⟨by rfl, ?_⟩) hHeld ?_ ?_
     rotate_left
     ·rintro w' ⟨s0, s1, s2, s3, s4, s5, s6, s7, s8, s9, s10, s11⟩
      go_simp
      with_reducible rfl
     rotate_left
     ·simp only [Act.put, List.setIfInBounds_toArray, List.set_cons_zero, List.set_cons_succ, i64_w, i32_w]
      rfl
     refine pure_ (i := 14) (N := some 76) (v := ?_) (a' := ?_) #[true, true, true, true, true, true, true, true, true, true, true, true, true, true, true, false, false, false, false, false, false, false, false, false, false, false, false] rfl rfl (any_of HT_.out (by kernel_rfl)) (fun _ _ _ h => h) (Or.inl ⟨by rfl, ?_⟩) ?_ ?_
     rotate_left
     ·intro w'
      go_simp
      with_reducible rfl
     rotate_left
     ·simp only [Act.put, List.setIfInBounds_toArray, List.set_cons_zero, List.set_cons_succ, i64_w, i32_w]
      rfl
     refine pure_ (i := 15) (N := some 77) (v := ?_) (a' := ?_) #[true, true, true, true, true, true, true, true, true, true, true, true, true, true, true, true, false, false, false, false, false, false, false, false, false, false, false] rfl rfl (any_of HT_.out (by kernel_rfl)) (fun _ _ _ h => h) (Or.inl ⟨by rfl, ?_⟩) ?_ ?_
     rotate_left
     ·intro w'
      go_simp
      with_reducible rfl
     rotate_left
     ·simp only [Act.put, List.setIfInBounds_toArray, List.set_cons_zero, List.set_cons_succ, i64_w, i32_w]
      rfl
     refine pure_ (i := 16) (N := some 78) (v := ?_) (a' := ?_) #[true, true, true, true, true, true, true, true, true, true, true, true, true, true, true, true, true, false, false, false, false, false, false, false, false, false, false] rfl rfl (any_of HT_.out (by kernel_rfl)) (fun _ _ _ h => h) (Or.inl ⟨by rfl, ?_⟩) ?_ ?_
     rotate_left
     ·intro w'
      go_simp
      with_reducible rfl
     rotate_left
     ·simp only [Act.put, List.setIfInBounds_toArray, List.set_cons_zero, List.set_cons_succ, i64_w, i32_w]
      rfl
     refine pure_ (i := 17) (N := some 79) (v := ?_) (a' := ?_) #[true, true, true, true, true, true, true, true, true, true, true, true, true, true, true, true, true, true, false, false, false, false, false, false, false, false, false] rfl rfl (any_of HT_.out (by kernel_rfl)) (fun _ _ _ h => h) (Or.inl ⟨by rfl, ?_⟩) ?_ ?_
     rotate_left
     ·intro w'
      go_simp
      with_reducible rfl
     rotate_left
     ·simp only [Act.put, List.setIfInBounds_toArray, List.set_cons_zero, List.set_cons_succ, i64_w, i32_w]
      rfl
     refine take_ (i := 18) (N := some 80) (v := ?_) (a' := ?_) #[true, true, true, true, true, true, true, true, true, true, true, true, true, true, true, true, true, true, true, false, false, false, false, false, false, false, false] rfl rfl (take_ofW HT_.out HW_.out (by kernel_rfl)) (fun _ _ _ h => h) (Or.inl ⟨by rfl, ?_⟩) hHeld ?_ ?_
     rotate_left
     ·rintro w' ⟨s0, s1, s2, s3, s4, s5, s6, s7, s8, s9, s10, s11⟩
      go_simp
      with_reducible rfl
     rotate_left
     ·simp only [Act.put, List.setIfInBounds_toArray, List.set_cons_zero, List.set_cons_succ, i64_w, i32_w]
      rfl
     refine take_ (i := 20) (N := some 82) (v := ?_) (a' := ?_) #[true, true, true, true, true, true, true, true, true, true, true, true, true, true, true, true, true, true, true, false, true, false, false, false, false, false, false] rfl rfl (take_ofW HT_.out HW_.out (by kernel_rfl)) (fun _ _ _ h => h) (Or.inl ⟨by rfl, ?_⟩) hHeld ?_ ?_
     rotate_left
     ·rintro w' ⟨s0, s1, s2, s3, s4, s5, s6, s7, s8, s9, s10, s11⟩
      go_simp
      with_reducible rfl
     rotate_left
     ·simp only [Act.put, List.setIfInBounds_toArray, List.set_cons_zero, List.set_cons_succ, i64_w, i32_w]
      rfl
     refine one_ (i := 19) (N := some 81) #[true, true, true, true, true, true, true, true, true, true, true, true, true, true, true, true, true, true, true, true, true, false, false, false, false, false, false] rfl rfl (one_of HT_.out (by kernel_rfl)) (by decide) (fun K hK => ?_)
     refine goes_ Try.func24 (by kernel_rfl) rfl #[.agg #[.int .i64 t320, .int .i64 t321, .int .i64 t322, .slice Ao50 t323.length co50]] (by rfl) rfl rfl q117_ ?_
     with_reducible refine (tilefarmlaw10_turn.calls k t320 t321 t322 _ _ t323 t342 t343 t344 t345 _ ?side1 ?side2 A16.out).mono ?_
     (case side1 => repeat (first | exact (Kd.R_reads' HO325.out).2.2 | (with_reducible refine Kd.C_alloc ?_ _) | (with_reducible refine Kd.C_drewN ?_ _) | (with_reducible refine Kd.C_drew ?_)))
     (case side2 => exact (Kd.R_reads' HO325.out).2.1)
     rintro e w65 ⟨v346, rfl, ho0, hb⟩
     refine ⟨_, rfl, ?_⟩
     have n0_ := am_ (Kd.R_elder' q170_ (Kd.R_base ho0) hb)
     have n1_ := am_ (Kd.R_elder' q171_ (Kd.R_base ho0) hb)
     have n2_ := am_ (Kd.R_elder' q172_ (Kd.R_base ho0) hb)
     have n3_ := am_ (Kd.R_elder' q173_ (Kd.R_base ho0) hb)
     have n4_ := am_ (Kd.R_elder' q174_ (Kd.R_base ho0) hb)
     have n5_ := am_ (Kd.R_elder' q175_ (Kd.R_base ho0) hb)
     have n6_ := am_ (Kd.R_lower (Kd.R_new' (Kd.R_new' (Kd.R_new' (Kd.R_new' (Kd.R_new' (Kd.R_new' ho0 (Kd.R_lt q170_)) (Kd.R_lt q171_)) (Kd.R_lt q172_)) (Kd.R_lt q173_)) (Kd.R_lt q174_)) (Kd.R_lt q175_)) (below_size q10_))
     have n7_ := am_ (IsS53.below q8_ hb)
     have n8_ := am_ (blk_below (g := gb301) (o := .cells #[.int .i64 t294, .int .i64 t295, .int .i64 t296, .slice Ao25 t297.length co25] 35 (0, 0)) q149_ hb)
     have n9_ := am_ (blk_below (g := gb319) (o := .cells #[.int .i64 t314, .int .i64 t315] 38 (0, 0)) q150_ hb)
     have n10_ := am_ (blk_below (g := gb327) (o := .cells #[.int .i64 t320, .int .i64 t321, .int .i64 t322, .slice Ao50 t323.length co50] 35 (0, 0)) q151_ hb)
     have n11_ := am_ (blk_below (g := gb341) (o := .cells #[.int .i64 t334, .int .i64 t335, .int .i64 t336, .slice Ao61 t337.length co61] 35 (0, 0)) q152_ hb)
     have n12_ := am_ (below_step q10_ hb)
     clear HO299
     clear HO306
     clear HO312
     clear HO325
     clear HO333
     clear HO339
     clear HI293
     clear BK301
     clear BK319
     clear BK327
     clear BK341
     clear HB
     have HO299 := n0_
     have HO306 := n1_
     have HO312 := n2_
     have HO325 := n3_
     have HO333 := n4_
     have HO339 := n5_
     have HO347 := n6_
     have HI293 := n7_
     have BK301 := n8_
     have BK319 := n9_
     have BK327 := n10_
     have BK341 := n11_
     have HB := n12_
     clear n0_ n1_ n2_ n3_ n4_ n5_ n6_ n7_ n8_ n9_ n10_ n11_ n12_
     (try clear hb)
     (try clear hb2)
     (try clear hk)
     (try clear hi)
     (try clear ho0)
     obtain ⟨Ao66, co66, eo66⟩ := Kd.R_slice HO347.out
     (first | subst eo66 | (injection eo66 with f1_ f2_ f3_; have f4_ := f1_.symm; have f5_ := f3_.symm; clear f1_ f2_ f3_; subst f4_; subst f5_))
     refine hK.out _ _ ⟨(blk_cell BK327.out 0).trans rfl, (blk_cell BK327.out 1).trans rfl, (blk_cell BK327.out 2).trans rfl, (blk_cell BK327.out 3).trans rfl, (blk_cell BK301.out 0).trans rfl, (blk_cell BK301.out 1).trans rfl, (blk_cell BK301.out 2).trans rfl, (blk_cell BK301.out 3).trans rfl, (blk_cell BK341.out 0).trans rfl, (blk_cell BK341.out 1).trans rfl, (blk_cell BK341.out 2).trans rfl, (blk_cell BK341.out 3).trans rfl⟩ (fun hHeld => ?_)
     clear hK K
     refine norm_ (a' := ?_) ?_ ?_
     rotate_left
     ·show Act.put _ (some 81) _ = _
      simp only [Act.put, List.setIfInBounds_toArray, List.set_cons_zero, List.set_cons_succ, i64_w, i32_w]
      rfl
     refine one_ (i := 21) (N := some 83) #[true, true, true, true, true, true, true, true, true, true, true, true, true, true, true, true, true, true, true, true, true, true, false, false, false, false, false] rfl rfl (one_of HT_.out (by kernel_rfl)) (by decide) (fun K hK => ?_)
     refine goes_ Try.func22 (by kernel_rfl) rfl #[.agg #[.int .i64 t342, .int .i64 t343, .int .i64 t344, .slice Ao66 t345.length co66], .agg #[.int .i64 t334, .int .i64 t335, .int .i64 t336, .slice Ao61 t337.length co61]] (by rfl) rfl rfl q117_ ?_
     with_reducible refine (tilefarmref4_Equal.calls k t342 t343 t344 _ _ t345 t334 t335 t336 _ _ t337 true _ ?side1 ?side2 ?side3 ?side4 A17.out).mono ?_
     (case side1 => repeat (first | exact (Kd.R_reads' HO347.out).2.2 | (with_reducible refine Kd.C_alloc ?_ _) | (with_reducible refine Kd.C_drewN ?_ _) | (with_reducible refine Kd.C_drew ?_)))
     (case side2 => exact (Kd.R_reads' HO347.out).2.1)
     (case side3 => repeat (first | exact (Kd.R_reads' HO339.out).2.2 | (with_reducible refine Kd.C_alloc ?_ _) | (with_reducible refine Kd.C_drewN ?_ _) | (with_reducible refine Kd.C_drew ?_)))
     (case side4 => exact (Kd.R_reads' HO339.out).2.1)
     rintro e w67 ⟨rfl, hb⟩
     refine ⟨_, rfl, ?_⟩
     have n0_ := am_ (Kd.R_below q170_ hb)
     have n1_ := am_ (Kd.R_below q171_ hb)
     have n2_ := am_ (Kd.R_below q172_ hb)
     have n3_ := am_ (Kd.R_below q173_ hb)
     have n4_ := am_ (Kd.R_below q174_ hb)
     have n5_ := am_ (Kd.R_below q175_ hb)
     have n6_ := am_ (Kd.R_below (by (with_reducible repeat (first | apply Kd.R_alloc | apply Kd.R_drewN | apply Kd.R_drew)); exact HO347.out) hb)
     have n7_ := am_ (IsS53.below q8_ hb)
     have n8_ := am_ (blk_below (g := gb301) (o := .cells #[.int .i64 t294, .int .i64 t295, .int .i64 t296, .slice Ao25 t297.length co25] 35 (0, 0)) q149_ hb)
     have n9_ := am_ (blk_below (g := gb319) (o := .cells #[.int .i64 t314, .int .i64 t315] 38 (0, 0)) q150_ hb)
     have n10_ := am_ (blk_below (g := gb327) (o := .cells #[.int .i64 t320, .int .i64 t321, .int .i64 t322, .slice Ao50 t323.length co50] 35 (0, 0)) q151_ hb)
     have n11_ := am_ (blk_below (g := gb341) (o := .cells #[.int .i64 t334, .int .i64 t335, .int .i64 t336, .slice Ao61 t337.length co61] 35 (0, 0)) q152_ hb)
     have n12_ := am_ (below_step q10_ hb)
     clear HO299
     clear HO306
     clear HO312
     clear HO325
     clear HO333
     clear HO339
     clear HO347
     clear HI293
     clear BK301
     clear BK319
     clear BK327
     clear BK341
     clear HB
     have HO299 := n0_
     have HO306 := n1_
     have HO312 := n2_
     have HO325 := n3_
     have HO333 := n4_
     have HO339 := n5_
     have HO347 := n6_
     have HI293 := n7_
     have BK301 := n8_
     have BK319 := n9_
     have BK327 := n10_
     have BK341 := n11_
     have HB := n12_
     clear n0_ n1_ n2_ n3_ n4_ n5_ n6_ n7_ n8_ n9_ n10_ n11_ n12_
     (try clear hb)
     (try clear hb2)
     (try clear hk)
     (try clear hi)
     refine hK.out _ _ ⟨(blk_cell BK327.out 0).trans rfl, (blk_cell BK327.out 1).trans rfl, (blk_cell BK327.out 2).trans rfl, (blk_cell BK327.out 3).trans rfl, (blk_cell BK301.out 0).trans rfl, (blk_cell BK301.out 1).trans rfl, (blk_cell BK301.out 2).trans rfl, (blk_cell BK301.out 3).trans rfl, (blk_cell BK341.out 0).trans rfl, (blk_cell BK341.out 1).trans rfl, (blk_cell BK341.out 2).trans rfl, (blk_cell BK341.out 3).trans rfl⟩ (fun hHeld => ?_)
     clear hK K
     refine norm_ (a' := ?_) ?_ ?_
     rotate_left
     ·show Act.put _ (some 83) _ = _
      simp only [Act.put, List.setIfInBounds_toArray, List.set_cons_zero, List.set_cons_succ, i64_w, i32_w]
      rfl
     refine pure_ (i := 22) (N := some 84) (v := ?_) (a' := ?_) #[true, true, true, true, true, true, true, true, true, true, true, true, true, true, true, true, true, true, true, true, true, true, true, false, false, false, false] rfl rfl (any_of HT_.out (by kernel_rfl)) (fun _ _ _ h => h) (Or.inl ⟨by rfl, ?_⟩) ?_ ?_
     rotate_left
     ·intro w'
      go_simp
      with_reducible rfl
     rotate_left
     ·simp only [Act.put, List.setIfInBounds_toArray, List.set_cons_zero, List.set_cons_succ, i64_w, i32_w]
      rfl
     refine pure_ (i := 23) (N := some 85) (v := ?_) (a' := ?_) #[true, true, true, true, true, true, true, true, true, true, true, true, true, true, true, true, true, true, true, true, true, true, true, true, false, false, false] rfl rfl (any_of HT_.out (by kernel_rfl)) (fun _ _ _ h => h) (Or.inl ⟨by rfl, ?_⟩) ?_ ?_
     rotate_left
     ·intro w'
      go_simp
      with_reducible rfl
     rotate_left
     ·simp only [Act.put, List.setIfInBounds_toArray, List.set_cons_zero, List.set_cons_succ, i64_w, i32_w]
      rfl
     refine one_ (i := 24) (N := some 86) #[true, true, true, true, true, true, true, true, true, true, true, true, true, true, true, true, true, true, true, true, true, true, true, true, true, false, false] rfl rfl (one_of HT_.out (by kernel_rfl)) (by decide) (fun K hK => ?_)
     refine goes_ Try.func14 (by kernel_rfl) rfl #[] (by rfl) rfl rfl q117_ ?_
     with_reducible refine (tilefarmlaw10_sane.calls k  t349 _ A19.out).mono ?_
     rintro e w68 ⟨rfl, hb⟩
     refine ⟨_, rfl, ?_⟩
     have n0_ := am_ (Kd.R_below q170_ hb)
     have n1_ := am_ (Kd.R_below q171_ hb)
     have n2_ := am_ (Kd.R_below q172_ hb)
     have n3_ := am_ (Kd.R_below q173_ hb)
     have n4_ := am_ (Kd.R_below q174_ hb)
     have n5_ := am_ (Kd.R_below q175_ hb)
     have n6_ := am_ (Kd.R_below (by (with_reducible repeat (first | apply Kd.R_alloc | apply Kd.R_drewN | apply Kd.R_drew)); exact HO347.out) hb)
     have n7_ := am_ (IsS53.below q8_ hb)
     have n8_ := am_ (blk_below (g := gb301) (o := .cells #[.int .i64 t294, .int .i64 t295, .int .i64 t296, .slice Ao25 t297.length co25] 35 (0, 0)) q149_ hb)
     have n9_ := am_ (blk_below (g := gb319) (o := .cells #[.int .i64 t314, .int .i64 t315] 38 (0, 0)) q150_ hb)
     have n10_ := am_ (blk_below (g := gb327) (o := .cells #[.int .i64 t320, .int .i64 t321, .int .i64 t322, .slice Ao50 t323.length co50] 35 (0, 0)) q151_ hb)
     have n11_ := am_ (blk_below (g := gb341) (o := .cells #[.int .i64 t334, .int .i64 t335, .int .i64 t336, .slice Ao61 t337.length co61] 35 (0, 0)) q152_ hb)
     have n12_ := am_ (below_step q10_ hb)
     clear HO299
     clear HO306
     clear HO312
     clear HO325
     clear HO333
     clear HO339
     clear HO347
     clear HI293
     clear BK301
     clear BK319
     clear BK327
     clear BK341
     clear HB
     have HO299 := n0_
     have HO306 := n1_
     have HO312 := n2_
     have HO325 := n3_
     have HO333 := n4_
     have HO339 := n5_
     have HO347 := n6_
     have HI293 := n7_
     have BK301 := n8_
     have BK319 := n9_
     have BK327 := n10_
     have BK341 := n11_
     have HB := n12_
     clear n0_ n1_ n2_ n3_ n4_ n5_ n6_ n7_ n8_ n9_ n10_ n11_ n12_
     (try clear hb)
     (try clear hb2)
     (try clear hk)
     (try clear hi)
     refine hK.out _ _ ⟨(blk_cell BK327.out 0).trans rfl, (blk_cell BK327.out 1).trans rfl, (blk_cell BK327.out 2).trans rfl, (blk_cell BK327.out 3).trans rfl, (blk_cell BK301.out 0).trans rfl, (blk_cell BK301.out 1).trans rfl, (blk_cell BK301.out 2).trans rfl, (blk_cell BK301.out 3).trans rfl, (blk_cell BK341.out 0).trans rfl, (blk_cell BK341.out 1).trans rfl, (blk_cell BK341.out 2).trans rfl, (blk_cell BK341.out 3).trans rfl⟩ (fun hHeld => ?_)
     clear hK K
     refine norm_ (a' := ?_) ?_ ?_
     rotate_left
     ·show Act.put _ (some 86) _ = _
      simp only [Act.put, List.setIfInBounds_toArray, List.set_cons_zero, List.set_cons_succ, i64_w, i32_w]
      rfl
     refine pure_ (i := 25) (N := some 87) (v := ?_) (a' := ?_) #[true, true, true, true, true, true, true, true, true, true, true, true, true, true, true, true, true, true, true, true, true, true, true, true, true, true, false] rfl rfl (any_of HT_.out (by kernel_rfl)) (fun _ _ _ h => h) (Or.inl ⟨by rfl, ?_⟩) ?_ ?_
     rotate_left
     ·intro w'
      go_simp
      with_reducible rfl
     rotate_left
     ·simp only [Act.put, List.setIfInBounds_toArray, List.set_cons_zero, List.set_cons_succ, i64_w, i32_w]
      rfl
     refine pure_ (i := 26) (N := some 2) (v := ?_) (a' := ?_) #[true, true, true, true, true, true, true, true, true, true, true, true, true, true, true, true, true, true, true, true, true, true, true, true, true, true, true] rfl rfl (any_of HT_.out (by kernel_rfl)) (fun _ _ _ h => h) (Or.inl ⟨by rfl, ?_⟩) ?_ ?_
     rotate_left
     ·intro w'
      go_simp
      with_reducible rfl
     rotate_left
     ·simp only [Act.put, List.setIfInBounds_toArray, List.set_cons_zero, List.set_cons_succ, i64_w, i32_w]
      rfl
     refine done_ (done_of HT_.out (by kernel_rfl)) ?_
     try go_wp2
     go_ret
     exact ⟨q179_, q10_⟩
    ·replace c18 := Bool.eq_false_iff.mpr c18
     subst c18
     have H1 : (some false) = some r := by rw [if_neg (show ¬ (false = true) by decide)] at H; exact H
     clear H
     have H := H1
     clear H1
     exact absurd ((Option.some.inj H).trans HT.out) (by decide)
   ·rw [if_neg c15] at H
    have c15b0 : ((t323.length : Int) == (wrap64 (t294 * t295))) = false := beq_eq_false_iff_ne.mpr c15
    have c15b1 : ((t323.length : Int) != (wrap64 (t294 * t295))) = true := bne_iff_ne.mpr c15
    exact absurd ((Option.some.inj H).trans HT.out) (by decide)
  ·rw [if_neg c14] at H
   have c14b0 : (t340 == 0) = false := beq_eq_false_iff_ne.mpr c14
   have c14b1 : (t340 != 0) = true := bne_iff_ne.mpr c14
   exact absurd ((Option.some.inj H).trans HT.out) (by decide)
 ·rw [if_neg c13] at H
  have c13b0 : (t326 == 0) = false := beq_eq_false_iff_ne.mpr c13
  have c13b1 : (t326 != 0) = true := bne_iff_ne.mpr c13
  exact absurd ((Option.some.inj H).trans HT.out) (by decide)


def tilefarmlaw10_SeparableTurns.Pure : Prop := ∀ (l0 : List Int), l0.length ≤ maxLen → l0.length * 8 ≤ 140737488351232 → (∀ x ∈ l0, (Lit.int .i64 x).wf = true) → ∃ k, tilefarmlaw10_SeparableTurns.f k l0 = some true
theorem tilefarmlaw10_SeparableTurns.walk (P : tilefarmlaw10_SeparableTurns.Pure) (a0 : Option Addr) (len0 cap0 : Nat) (z0 : List Int) (w : World) (w0 : (a0 = none ∧ len0 = 0 ∧ cap0 = 0 ∧ z0 = []) ∨ ∃ x, a0 = some x ∧ len0 ≤ cap0 ∧ cap0 ≤ maxLen ∧ z0.length = cap0 ∧ (∀ i, i < z0.length → w.cell? (x.add i) = some (.int .i64 (z0.getD i 0))) ∧ ∀ n ∈ z0, (Lit.int .i64 n).wf = true) (y0 : len0 * 8 ≤ 140737488351232) :
  Calls Try.prog 6 #[.slice a0 len0 cap0] w fun e w' => e = .returned (.bool true) ∧ Below w.heap.size w w' := by
 obtain ⟨l0, rfl, hr0, hm0, hw0, hc0⟩ := ReadsInt.ofRowC w0
 obtain ⟨k, h⟩ := P l0 hm0 y0 hw0
 refine (tilefarmlaw10_SeparableTurns.calls k _ _ l0 true w (Kd.C_of_reads (d := (0 : Int)) (h1 := fun _ => rfl) hr0) hc0 h).mono ?_
 rintro e w' ⟨rfl, hd⟩
 exact ⟨rfl, hd⟩

end Go.Proofs.Ytcfllciehmgikaa.PSeparableTurns
